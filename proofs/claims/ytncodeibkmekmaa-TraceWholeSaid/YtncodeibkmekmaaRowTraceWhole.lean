import Derived.Test.YtncodeibkmekmaaSpecTraceWhole
import Derived.Test.YtncodeibkmekmaaRows
/- The statement: for every input the law's call returns true, and each argument reads as it did; no further conditions. -/
set_option linter.all false
set_option linter.deprecated false
namespace Go.Proofs.Ytncodeibkmekmaa.TW
open Go.ChangeShapes Go.WideShapes Go.ChangeAt Go.RowKit Go.Proofs.Ytncodeibkmekmaa.Abs Go.Proofs.Ytncodeibkmekmaa.Gen
set_option linter.unusedVariables false
theorem own : ownKnob Try.prog.godebug = none := by kernel_rfl
theorem laidOut : laidOutB Try.prog = true := by kernel_rfl
theorem decE (c : List Value) (h : okLeaves [.i .i64, .i .i64, .i .i64, .i .i64, .i .u64] c) : ∃ e : Ev, c = encE e := by
  match c, h with
  | [.int _ a, .int _ b, .int _ c, .int _ d, .int _ e], ⟨⟨rfl, _⟩, ⟨rfl, _⟩, ⟨rfl, _⟩, ⟨rfl, _⟩, ⟨rfl, _⟩, _⟩ => exact ⟨⟨a, b, c, d, e⟩, rfl⟩
theorem flatE : flatK Try.prog 6 29 = some [.i .i64, .i .i64, .i .i64, .i .i64, .i .u64] := by kernel_rfl

set_option maxRecDepth 100000 in
theorem lifted (os : Os) (started : os.Started) (H : Type) (enc : TypeId × Value → H) :
    ReturnsInHanded {} Try.checked os 3 .any (Rows.traceWholeSpec.pre6 enc Try.prog Try.f3 Rows.traceWholeRow.domain false) (Rows.traceWholeSpec.post enc Try.prog Try.f3 false true false false) := by
  refine returnsInHanded_of_change_sized (C := Try.checked) own started (by kernel_rfl) Try.func3
    (ChangeSpec.witness6 (enc := enc) (C := Try.checked) false ⟨#[], #[.slice none 0 0, .slice none 0 0, .int .i64 0], []⟩ 8 (by kernel_rfl) (by kernel_rfl) (by kernel_rfl) (by kernel_rfl)) ?_
  intro W base args ds gs before hval0 hW hcnd hsz _
  have hval : ∀ (j : Nat) t v, Try.f3.params[j]? = some t → args[j]? = some v → Value.okWide Try.prog W .any base t v := hval0
  have hW' := hW
  obtain ⟨p, q, hA0, hV, rfl, hfz, hnd⟩ := hW
  have hA : DataW.TrodAll enc Try.prog W 0 (fun _ => true) true Try.f3.params.toList args.toList ds p := hA0
  rw [Try.params3] at hA hval
  obtain ⟨v0, vs0, d0, ds0, p0, q0, hargs, rfl, rfl, h0, r0⟩ := trodAll_cons hA
  obtain ⟨v1, vs1, d1, ds1, p1, q1, rfl, rfl, rfl, h1, r1⟩ := trodAll_cons r0
  obtain ⟨v2, vs2, d2, ds2, p2, q2, rfl, rfl, rfl, h2, r2⟩ := trodAll_cons r1
  obtain ⟨rfl, rfl, rfl⟩ := trodAll_nil r2
  obtain rfl : args = #[v0, v1, v2] := by cases args; simp_all
  obtain ⟨rfl, rfl⟩ := trodVars_none hV
  have lt0 : ∀ x ∈ p0, x.block < W.heap.size := by obtain ⟨m, hm⟩ := id h0; exact DataW.trod_lt m _ _ _ hm
  have lt1 : ∀ x ∈ p1, x.block < W.heap.size := by obtain ⟨m, hm⟩ := id h1; exact DataW.trod_lt m _ _ _ hm
  have lt2 : ∀ x ∈ p2, x.block < W.heap.size := by obtain ⟨m, hm⟩ := id h2; exact DataW.trod_lt m _ _ _ hm
  obtain ⟨ent0, els0, av0, ok0, lv0, rd0⟩ := slice_in (j := 0) Try.underlying22 flatE (by kernel_rfl) (by decide) (of_decide_eq_true (by kernel_rfl)) (okWide_slice Try.underlying22 (hval 0 22 v0 rfl rfl)) h0 hsz rfl rfl
  obtain ⟨ent1, els1, av1, ok1, lv1, rd1⟩ := slice_in (j := 1) Try.underlying22 flatE (by kernel_rfl) (by decide) (of_decide_eq_true (by kernel_rfl)) (okWide_slice Try.underlying22 (hval 1 22 v1 rfl rfl)) h1 hsz rfl rfl
  obtain ⟨xs, rfl⟩ := dec_all decE els0 lv0
  obtain ⟨ys, rfl⟩ := dec_all decE els1 lv1
  obtain ⟨a2, rfl, e2, _, w2⟩ := open_int Try.underlying3 (hval 2 3 v2 rfl rfl) h2
  have hc := calls_true (w := W) (es := [ent0, ent1]) (args := [av0 0, av1 1, .int .i64 a2]) (cargs := #[v0, v1, .int .i64 a2]) (by kernel_rfl) Try.func3 (by kernel_rfl) (by kernel_rfl)
    (by intro e he; simp at he; rcases he with rfl | rfl <;> assumption) (.cons (rd0 _ 0 rfl).1 (.cons (rd1 _ 1 rfl).1 (.cons (.int _ _) .nil)))
    (fun K hK => TraceWhole_spec (sl_in (rd0 _ 0 rfl).2) (sl_in (rd1 _ 1 rfl).2) hK)
  refine hc.mono fun e W' ⟨he, bel⟩ => ?_
  subst he
  exact ⟨_, rfl, _, _, _, [], _, [], hW', trodAll_mk1 (shut_bool Try.underlying4 _), (trodAll_cons_mk (Below.trod laidOut (by kernel_rfl) (of_decide_eq_true (by kernel_rfl)) h0 bel lt0) (trodAll_cons_mk (Below.trod laidOut (by kernel_rfl) (of_decide_eq_true (by kernel_rfl)) h1 bel lt1) (trodAll_cons_mk (Below.trod laidOut (by kernel_rfl) (of_decide_eq_true (by kernel_rfl)) h2 bel lt2) trodAll_mk0))), rfl, bel.frame _, fun h => by cases h⟩

theorem over : Rows.traceWholeRow.holds Try.pinned (OpenSpec.ofChange Rows.traceWholeSpec) :=
  OpenClaim.holds_of_wide 3 Try.f3 rfl rfl rfl rfl rfl rfl rfl ⟨rfl, rfl, rfl, rfl, rfl⟩ rfl rfl rfl rfl rfl (by kernel_rfl) Try.func3 (by kernel_rfl)
    (of_decide_eq_true (by kernel_rfl)) (by unfold Func.isWrapper; first | (rw [if_pos (by decide +kernel)]; kernel_rfl) | (rw [if_neg (by decide +kernel)]; exact ⟨rfl, rfl⟩))
    (fun os started H enc _ => lifted os started H enc)

theorem proved : Rows.TraceWholeSaid := over

end Go.Proofs.Ytncodeibkmekmaa.TW
