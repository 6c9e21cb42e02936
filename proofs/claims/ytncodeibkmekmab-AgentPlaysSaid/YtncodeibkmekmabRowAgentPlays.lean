import Derived.Test.YtncodeibkmekmabSpecAgentPlays
import Derived.Test.YtncodeibkmekmabRows
/- The statement: for every input the law's call returns true, and each argument reads as it did; no further conditions. -/
set_option linter.all false
set_option linter.deprecated false
namespace Go.Proofs.Ytncodeibkmekmab.GP
open Go.ChangeShapes Go.WideShapes Go.ChangeAt Go.RowKit Go.Proofs.Ytncodeibkmekmab.Abs Go.Proofs.Ytncodeibkmekmab.Gen
theorem own : ownKnob Try.prog.godebug = none := by kernel_rfl
theorem laidOut : laidOutB Try.prog = true := by kernel_rfl
theorem decT (c : List Value) (h : okLeaves [.i .i64, .i .i64, .i .i64, .i .u64, .i .i64, .i .i64, .b, .b, .i .u64, .i .u64, .i .u64, .i .u64, .i .u64, .i .u64, .i .u64, .i .u64] c) : ∃ x : Tp, c = encT x := by
  obtain ⟨x0, c0, e0, h⟩ := ok_i h
  obtain ⟨x1, c1, e1, h⟩ := ok_i h
  obtain ⟨x2, c2, e2, h⟩ := ok_i h
  obtain ⟨x3, c3, e3, h⟩ := ok_i h
  obtain ⟨x4, c4, e4, h⟩ := ok_i h
  obtain ⟨x5, c5, e5, h⟩ := ok_i h
  obtain ⟨x6, c6, e6, h⟩ := ok_b h
  obtain ⟨x7, c7, e7, h⟩ := ok_b h
  obtain ⟨x8, c8, e8, h⟩ := ok_i h
  obtain ⟨x9, c9, e9, h⟩ := ok_i h
  obtain ⟨x10, c10, e10, h⟩ := ok_i h
  obtain ⟨x11, c11, e11, h⟩ := ok_i h
  obtain ⟨x12, c12, e12, h⟩ := ok_i h
  obtain ⟨x13, c13, e13, h⟩ := ok_i h
  obtain ⟨x14, c14, e14, h⟩ := ok_i h
  obtain ⟨x15, c15, e15, h⟩ := ok_i h
  have e := ok_nil h
  subst e e15 e14 e13 e12 e11 e10 e9 e8 e7 e6 e5 e4 e3 e2 e1 e0
  exact ⟨⟨x0, x1, x2, x3, ⟨x4, x5, x6, x7, ⟨[x8, x9, x10, x11, x12, x13, x14, x15], rfl⟩⟩⟩, rfl⟩
theorem flatT : flatK Try.prog 6 52 = some [.i .i64, .i .i64, .i .i64, .i .u64, .i .i64, .i .i64, .b, .b, .i .u64, .i .u64, .i .u64, .i .u64, .i .u64, .i .u64, .i .u64, .i .u64] := by kernel_rfl

set_option maxRecDepth 100000 in
theorem lifted (os : Os) (started : os.Started) (H : Type) (enc : TypeId × Value → H) :
    ReturnsInHanded {} Try.checked os 6 .any (Rows.agentPlaysSpec.pre6 enc Try.prog Try.f6 Rows.agentPlaysRow.domain false) (Rows.agentPlaysSpec.post enc Try.prog Try.f6 false true false false) := by
  refine returnsInHanded_of_change_sized (C := Try.checked) own started (by kernel_rfl) Try.func6
    (ChangeSpec.witness6 (enc := enc) (C := Try.checked) false ⟨#[], #[.int .i64 0, .int .i64 0, .slice none 0 0], []⟩ 8 (by kernel_rfl) (by kernel_rfl) (by kernel_rfl) (by kernel_rfl)) ?_
  intro W base args ds gs before hval0 hW hcnd hsz _
  have hval : ∀ (j : Nat) t v, Try.f6.params[j]? = some t → args[j]? = some v → Value.okWide Try.prog W .any base t v := hval0
  have hW' := hW
  obtain ⟨p, q, hA0, hV, rfl, hfz, hnd⟩ := hW
  have hA : DataW.TrodAll enc Try.prog W 0 (fun _ => true) true Try.f6.params.toList args.toList ds p := hA0
  rw [Try.params6] at hA hval
  obtain ⟨v0, vs0, d0, ds0, p0, q0, hargs, rfl, rfl, h0, r0⟩ := trodAll_cons hA
  obtain ⟨v1, vs1, d1, ds1, p1, q1, rfl, rfl, rfl, h1, r1⟩ := trodAll_cons r0
  obtain ⟨v2, vs2, d2, ds2, p2, q2, rfl, rfl, rfl, h2, r2⟩ := trodAll_cons r1
  obtain ⟨rfl, rfl, rfl⟩ := trodAll_nil r2
  obtain rfl : args = #[v0, v1, v2] := by cases args; simp_all
  obtain ⟨rfl, rfl⟩ := trodVars_none hV
  have lt0 : ∀ x ∈ p0, x.block < W.heap.size := by obtain ⟨m, hm⟩ := id h0; exact DataW.trod_lt m _ _ _ hm
  have lt1 : ∀ x ∈ p1, x.block < W.heap.size := by obtain ⟨m, hm⟩ := id h1; exact DataW.trod_lt m _ _ _ hm
  have lt2 : ∀ x ∈ p2, x.block < W.heap.size := by obtain ⟨m, hm⟩ := id h2; exact DataW.trod_lt m _ _ _ hm
  obtain ⟨a0, rfl, e0, _, w0⟩ := open_int Try.underlying3 (hval 0 3 v0 rfl rfl) h0
  obtain ⟨a1, rfl, e1, _, w1⟩ := open_int Try.underlying3 (hval 1 3 v1 rfl rfl) h1
  obtain ⟨ent2, els2, av2, ok2, lv2, rd2⟩ := slice_in (j := 2) Try.underlying47 flatT (by kernel_rfl) (by decide) (of_decide_eq_true (by kernel_rfl)) (okWide_slice Try.underlying47 (hval 2 47 v2 rfl rfl)) h2 hsz rfl rfl
  obtain ⟨xs2, rfl⟩ := dec_all decT els2 lv2
  have hc := calls_true (w := W) (es := [ent2]) (args := [.int .i64 a0, .int .i64 a1, av2 0]) (cargs := #[.int .i64 a0, .int .i64 a1, v2]) (by kernel_rfl) Try.func6 (by kernel_rfl) (by kernel_rfl)
    (by intro e he; simp at he; subst he; assumption) (.cons (.int _ _) (.cons (.int _ _) (.cons (rd2 _ 0 rfl).1 .nil)))
    (fun K hK => AgentPlays_spec (sl_in (rd2 _ 0 rfl).2)  hK)
  refine hc.mono fun e W' ⟨he, bel⟩ => ?_
  subst he
  exact ⟨_, rfl, _, _, _, [], _, [], hW', trodAll_mk1 (shut_bool Try.underlying4 _), (trodAll_cons_mk (Below.trod laidOut (by kernel_rfl) (of_decide_eq_true (by kernel_rfl)) h0 bel lt0) (trodAll_cons_mk (Below.trod laidOut (by kernel_rfl) (of_decide_eq_true (by kernel_rfl)) h1 bel lt1) (trodAll_cons_mk (Below.trod laidOut (by kernel_rfl) (of_decide_eq_true (by kernel_rfl)) h2 bel lt2) trodAll_mk0))), rfl, bel.frame _, fun h => by cases h⟩

theorem over : Rows.agentPlaysRow.holds Try.pinned (OpenSpec.ofChange Rows.agentPlaysSpec) :=
  OpenClaim.holds_of_wide 6 Try.f6 rfl rfl rfl rfl rfl rfl rfl ⟨rfl, rfl, rfl, rfl, rfl⟩ rfl rfl rfl rfl rfl (by kernel_rfl) Try.func6 (by kernel_rfl)
    (of_decide_eq_true (by kernel_rfl)) (by unfold Func.isWrapper; first | (rw [if_pos (by decide +kernel)]; kernel_rfl) | (rw [if_neg (by decide +kernel)]; exact ⟨rfl, rfl⟩))
    (fun os started H enc _ => lifted os started H enc)

theorem proved : Rows.AgentPlaysSaid := over

end Go.Proofs.Ytncodeibkmekmab.GP
