import Derived.Test.YtncodeibkmekmaaSpecTraceOf
import Derived.Test.YtncodeibkmekmaaRows
/- The statement: for every input the law's call returns true, and each argument reads as it did; no further conditions. -/
set_option linter.all false
set_option linter.deprecated false
namespace Go.Proofs.Ytncodeibkmekmaa.TO
open Go.ChangeShapes Go.WideShapes Go.ChangeAt Go.RowKit Go.Proofs.Ytncodeibkmekmaa.Abs Go.Proofs.Ytncodeibkmekmaa.Gen
theorem own : ownKnob Try.prog.godebug = none := by kernel_rfl
theorem laidOut : laidOutB Try.prog = true := by kernel_rfl
theorem decE (c : List Value) (h : okLeaves [.i .i64, .i .i64, .i .i64, .i .i64, .i .u64] c) : ∃ e : Ev, c = encE e := by
  match c, h with
  | [.int _ a, .int _ b, .int _ c, .int _ d, .int _ e], ⟨⟨rfl, _⟩, ⟨rfl, _⟩, ⟨rfl, _⟩, ⟨rfl, _⟩, ⟨rfl, _⟩, _⟩ => exact ⟨⟨a, b, c, d, e⟩, rfl⟩
theorem flatE : flatK Try.prog 6 29 = some [.i .i64, .i .i64, .i .i64, .i .i64, .i .u64] := by kernel_rfl

set_option maxRecDepth 100000 in
theorem lifted (os : Os) (started : os.Started) (H : Type) (enc : TypeId × Value → H) :
    ReturnsInHanded {} Try.checked os 4 .any (Rows.traceOfSpec.pre6 enc Try.prog Try.f4 Rows.traceOfRow.domain false) (Rows.traceOfSpec.post enc Try.prog Try.f4 false true false false) := by
  refine returnsInHanded_of_change_sized (C := Try.checked) own started (by kernel_rfl) Try.func4
    (ChangeSpec.witness6 (enc := enc) (C := Try.checked) false ⟨#[], #[.slice none 0 0, .int .i64 0], []⟩ 8 (by kernel_rfl) (by kernel_rfl) (by kernel_rfl) (by kernel_rfl)) ?_
  intro W base args ds gs before hval0 hW hcnd hsz _
  have hval : ∀ (j : Nat) t v, Try.f4.params[j]? = some t → args[j]? = some v → Value.okWide Try.prog W .any base t v := hval0
  have hW' := hW
  obtain ⟨p, q, hA0, hV, rfl, hfz, hnd⟩ := hW
  have hA : DataW.TrodAll enc Try.prog W 0 (fun _ => true) true Try.f4.params.toList args.toList ds p := hA0
  rw [Try.params4] at hA hval
  obtain ⟨v0, vs0, d0, ds0, p0, q0, hargs, rfl, rfl, h0, r0⟩ := trodAll_cons hA
  obtain ⟨v1, vs1, d1, ds1, p1, q1, rfl, rfl, rfl, h1, r1⟩ := trodAll_cons r0
  obtain ⟨rfl, rfl, rfl⟩ := trodAll_nil r1
  obtain rfl : args = #[v0, v1] := by cases args; simp_all
  obtain ⟨rfl, rfl⟩ := trodVars_none hV
  have lt0 : ∀ x ∈ p0, x.block < W.heap.size := by obtain ⟨m, hm⟩ := id h0; exact DataW.trod_lt m _ _ _ hm
  have lt1 : ∀ x ∈ p1, x.block < W.heap.size := by obtain ⟨m, hm⟩ := id h1; exact DataW.trod_lt m _ _ _ hm
  obtain ⟨ent0, els0, av0, ok0, lv0, rd0⟩ := slice_in (j := 0) Try.underlying22 flatE (by kernel_rfl) (by decide) (of_decide_eq_true (by kernel_rfl)) (okWide_slice Try.underlying22 (hval 0 22 v0 rfl rfl)) h0 hsz rfl rfl
  obtain ⟨xs0, rfl⟩ := dec_all decE els0 lv0
  obtain ⟨a1, rfl, e1, _, w1⟩ := open_int Try.underlying3 (hval 1 3 v1 rfl rfl) h1
  have hc := calls_true (w := W) (es := [ent0]) (args := [av0 0, .int .i64 a1]) (cargs := #[v0, .int .i64 a1]) (by kernel_rfl) Try.func4 (by kernel_rfl) (by kernel_rfl)
    (by intro e he; simp at he; subst he; assumption) (.cons (rd0 _ 0 rfl).1 (.cons (.int _ _) .nil))
    (fun K hK => TraceOf_spec (sl_in (rd0 _ 0 rfl).2) hK)
  refine hc.mono fun e W' ⟨he, bel⟩ => ?_
  subst he
  exact ⟨_, rfl, _, _, _, [], _, [], hW', trodAll_mk1 (shut_bool Try.underlying4 _), (trodAll_cons_mk (Below.trod laidOut (by kernel_rfl) (of_decide_eq_true (by kernel_rfl)) h0 bel lt0) (trodAll_cons_mk (Below.trod laidOut (by kernel_rfl) (of_decide_eq_true (by kernel_rfl)) h1 bel lt1) trodAll_mk0)), rfl, bel.frame _, fun h => by cases h⟩

theorem over : Rows.traceOfRow.holds Try.pinned (OpenSpec.ofChange Rows.traceOfSpec) :=
  OpenClaim.holds_of_wide 4 Try.f4 rfl rfl rfl rfl rfl rfl rfl ⟨rfl, rfl, rfl, rfl, rfl⟩ rfl rfl rfl rfl rfl (by kernel_rfl) Try.func4 (by kernel_rfl)
    (of_decide_eq_true (by kernel_rfl)) (by unfold Func.isWrapper; first | (rw [if_pos (by decide +kernel)]; kernel_rfl) | (rw [if_neg (by decide +kernel)]; exact ⟨rfl, rfl⟩))
    (fun os started H enc _ => lifted os started H enc)

theorem proved : Rows.TraceOfSaid := over

end Go.Proofs.Ytncodeibkmekmaa.TO
