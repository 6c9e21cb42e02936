import Derived.Test.YtncodeibkmekmabSpecAgentUps
import Derived.Test.YtncodeibkmekmabRows
/- The statement: for every input the law's call returns true, and each argument reads as it did; no further conditions. -/
set_option linter.all false
set_option linter.deprecated false
namespace Go.Proofs.Ytncodeibkmekmab.GU
open Go.ChangeShapes Go.WideShapes Go.ChangeAt Go.RowKit Go.Proofs.Ytncodeibkmekmab.Abs Go.Proofs.Ytncodeibkmekmab.Gen
theorem own : ownKnob Try.prog.godebug = none := by kernel_rfl
theorem laidOut : laidOutB Try.prog = true := by kernel_rfl
theorem u8rng {x : Int} (h : (Lit.int .u8 x).wf = true) : 0 ≤ x ∧ x ≤ 255 := by
  simp only [Lit.wf, Bool.and_eq_true, decide_eq_true_eq] at h
  have e1 : IntKind.u8.min = 0 := rfl
  have e2 : IntKind.u8.max = 255 := rfl
  rw [e1, e2] at h
  exact h
theorem decL (c : List Value) (h : okLeaves [.i .u64, .i .u64, .i .u64, .i .u64, .i .u64, .i .u64, .i .u64, .i .u64] c) : ∃ x : Ln, c = encL x := by
  obtain ⟨x0, c0, e0, h⟩ := ok_i h
  obtain ⟨x1, c1, e1, h⟩ := ok_i h
  obtain ⟨x2, c2, e2, h⟩ := ok_i h
  obtain ⟨x3, c3, e3, h⟩ := ok_i h
  obtain ⟨x4, c4, e4, h⟩ := ok_i h
  obtain ⟨x5, c5, e5, h⟩ := ok_i h
  obtain ⟨x6, c6, e6, h⟩ := ok_i h
  obtain ⟨x7, c7, e7, h⟩ := ok_i h
  have e := ok_nil h
  subst e e7 e6 e5 e4 e3 e2 e1 e0
  exact ⟨⟨[x0, x1, x2, x3, x4, x5, x6, x7], rfl⟩, rfl⟩
theorem flatL : flatK Try.prog 6 24 = some [.i .u64, .i .u64, .i .u64, .i .u64, .i .u64, .i .u64, .i .u64, .i .u64] := by kernel_rfl

set_option maxRecDepth 100000 in
theorem lifted (os : Os) (started : os.Started) (H : Type) (enc : TypeId × Value → H) :
    ReturnsInHanded {} Try.checked os 3 .any (Rows.agentUpsSpec.pre6 enc Try.prog Try.f3 Rows.agentUpsRow.domain false) (Rows.agentUpsSpec.post enc Try.prog Try.f3 false true false false) := by
  refine returnsInHanded_of_change_sized (C := Try.checked) own started (by kernel_rfl) Try.func3
    (ChangeSpec.witness6 (enc := enc) (C := Try.checked) false ⟨#[], #[.agg #[.int .u64 0, .int .u64 0, .int .u64 0, .int .u64 0, .int .u64 0, .int .u64 0, .int .u64 0, .int .u64 0], .agg #[.int .u64 0, .int .u64 0, .int .u64 0, .int .u64 0, .int .u64 0, .int .u64 0, .int .u64 0, .int .u64 0], .int .u8 0], []⟩ 8 (by kernel_rfl) (by kernel_rfl) (by kernel_rfl) (by kernel_rfl)) ?_
  intro W base args ds gs before hval0 hW hcnd hsz _
  have hval : ∀ (j : Nat) t v, Try.f3.params[j]? = some t → args[j]? = some v → Value.okWide Try.prog W .any base t v := hval0
  have hW' := hW
  obtain ⟨p, q, hA0, hV, rfl, hfz, hnd⟩ := hW
  have hA : DataW.TrodAll enc Try.prog W 0 (fun _ => true) true Try.f3.params.toList args.toList ds p := hA0
  rw [Try.params3] at hA hval
  obtain ⟨v0, vs0, d0, ds0, p0, q0, hargs, rfl, rfl, h0, r0⟩ := trodAll_cons hA
  obtain ⟨v1, vs1, d1, ds1, p1, q1, rfl, rfl, rfl, h1, r1⟩ := trodAll_cons r0
  obtain ⟨v2, vs2, d2, ds2, p2, q2, rfl, rfl, rfl, h2, r2⟩ := trodAll_cons r1
  obtain ⟨rfl, rfl, rfl⟩ := trodAll_nil r2
  obtain rfl : args = #[v0, v1, v2] := by cases args; simp_all
  obtain ⟨rfl, rfl⟩ := trodVars_none hV
  have lt0 : ∀ x ∈ p0, x.block < W.heap.size := by obtain ⟨m, hm⟩ := id h0; exact DataW.trod_lt m _ _ _ hm
  have lt1 : ∀ x ∈ p1, x.block < W.heap.size := by obtain ⟨m, hm⟩ := id h1; exact DataW.trod_lt m _ _ _ hm
  have lt2 : ∀ x ∈ p2, x.block < W.heap.size := by obtain ⟨m, hm⟩ := id h2; exact DataW.trod_lt m _ _ _ hm
  obtain ⟨cs0, rfl, lv0⟩ := agg_in flatL (by kernel_rfl) (okWide_agg (.inr ⟨_, _, Try.underlying24⟩) (hval 0 24 v0 rfl rfl)) h0
  obtain ⟨x0, rfl⟩ := decL cs0 lv0
  obtain ⟨cs1, rfl, lv1⟩ := agg_in flatL (by kernel_rfl) (okWide_agg (.inr ⟨_, _, Try.underlying24⟩) (hval 1 24 v1 rfl rfl)) h1
  obtain ⟨x1, rfl⟩ := decL cs1 lv1
  obtain ⟨a2, rfl, e2, _, w2⟩ := open_int Try.underlying5 (hval 2 5 v2 rfl rfl) h2
  have hc := calls_true (w := W) (es := []) (args := [.agg (encL x0).toArray, .agg (encL x1).toArray, .int .u8 a2]) (cargs := #[.agg (encL x0).toArray, .agg (encL x1).toArray, .int .u8 a2]) (by kernel_rfl) Try.func3 (by kernel_rfl) (by kernel_rfl)
    (by intro e he; simp at he) (.cons (agg_vr lv0 _) (.cons (agg_vr lv1 _) (.cons (.int _ _) .nil)))
    (fun K hK => AgentUps_spec  (u8rng w2) hK)
  refine hc.mono fun e W' ⟨he, bel⟩ => ?_
  subst he
  exact ⟨_, rfl, _, _, _, [], _, [], hW', trodAll_mk1 (shut_bool Try.underlying4 _), (trodAll_cons_mk (Below.trod laidOut (by kernel_rfl) (of_decide_eq_true (by kernel_rfl)) h0 bel lt0) (trodAll_cons_mk (Below.trod laidOut (by kernel_rfl) (of_decide_eq_true (by kernel_rfl)) h1 bel lt1) (trodAll_cons_mk (Below.trod laidOut (by kernel_rfl) (of_decide_eq_true (by kernel_rfl)) h2 bel lt2) trodAll_mk0))), rfl, bel.frame _, fun h => by cases h⟩

theorem over : Rows.agentUpsRow.holds Try.pinned (OpenSpec.ofChange Rows.agentUpsSpec) :=
  OpenClaim.holds_of_wide 3 Try.f3 rfl rfl rfl rfl rfl rfl rfl ⟨rfl, rfl, rfl, rfl, rfl⟩ rfl rfl rfl rfl rfl (by kernel_rfl) Try.func3 (by kernel_rfl)
    (of_decide_eq_true (by kernel_rfl)) (by unfold Func.isWrapper; first | (rw [if_pos (by decide +kernel)]; kernel_rfl) | (rw [if_neg (by decide +kernel)]; exact ⟨rfl, rfl⟩))
    (fun os started H enc _ => lifted os started H enc)

theorem proved : Rows.AgentUpsSaid := over

end Go.Proofs.Ytncodeibkmekmab.GU
