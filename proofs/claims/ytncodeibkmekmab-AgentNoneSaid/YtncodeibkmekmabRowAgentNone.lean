import Derived.Test.YtncodeibkmekmabSpecAgentNone
import Derived.Test.YtncodeibkmekmabRows
/- The statement: for every input the law's call returns true, and each argument reads as it did; no further conditions. -/
set_option linter.all false
set_option linter.deprecated false
namespace Go.Proofs.Ytncodeibkmekmab.GN
open Go.ChangeShapes Go.WideShapes Go.ChangeAt Go.RowKit Go.Proofs.Ytncodeibkmekmab.Abs Go.Proofs.Ytncodeibkmekmab.Gen
theorem own : ownKnob Try.prog.godebug = none := by kernel_rfl
theorem laidOut : laidOutB Try.prog = true := by kernel_rfl
theorem decStp (c : List Value) (h : okLeaves [.i .i64, .i .i64, .i .i64, .i .u64, .i .i64, .i .i64, .b, .b, .i .u64, .i .u64, .i .u64, .i .u64, .i .u64, .i .u64, .i .u64, .i .u64] c) : ∃ x : Stp, c = encStp x := by
  obtain ⟨x0, c0, e0, h⟩ := ok_i h
  obtain ⟨x1, c1, e1, h⟩ := ok_i h
  obtain ⟨x2, c2, e2, h⟩ := ok_i h
  obtain ⟨x3, c3, e3, h⟩ := ok_i h
  obtain ⟨x4, c4, e4, h⟩ := ok_i h
  obtain ⟨x5, c5, e5, h⟩ := ok_i h
  obtain ⟨x6, c6, e6, h⟩ := ok_b h
  obtain ⟨x7, c7, e7, h⟩ := ok_b h
  obtain ⟨x8, c8, e8, h⟩ := ok_i h
  obtain ⟨x9, c9, e9, h⟩ := ok_i h
  obtain ⟨x10, c10, e10, h⟩ := ok_i h
  obtain ⟨x11, c11, e11, h⟩ := ok_i h
  obtain ⟨x12, c12, e12, h⟩ := ok_i h
  obtain ⟨x13, c13, e13, h⟩ := ok_i h
  obtain ⟨x14, c14, e14, h⟩ := ok_i h
  obtain ⟨x15, c15, e15, h⟩ := ok_i h
  have e := ok_nil h
  subst e e15 e14 e13 e12 e11 e10 e9 e8 e7 e6 e5 e4 e3 e2 e1 e0
  exact ⟨⟨x0, x1, x2, x3, x4, x5, x6, x7, x8, x9, x10, x11, x12, x13, x14, x15⟩, rfl⟩
theorem flatStp : flatK Try.prog 6 52 = some [.i .i64, .i .i64, .i .i64, .i .u64, .i .i64, .i .i64, .b, .b, .i .u64, .i .u64, .i .u64, .i .u64, .i .u64, .i .u64, .i .u64, .i .u64] := by kernel_rfl

set_option maxRecDepth 100000 in
theorem lifted (os : Os) (started : os.Started) (H : Type) (enc : TypeId × Value → H) :
    ReturnsInHanded {} Try.checked os 9 .any (Rows.agentNoneSpec.pre6 enc Try.prog Try.f9 Rows.agentNoneRow.domain false) (Rows.agentNoneSpec.post enc Try.prog Try.f9 false true false false) := by
  refine returnsInHanded_of_change_sized (C := Try.checked) own started (by kernel_rfl) Try.func9
    (ChangeSpec.witness6 (enc := enc) (C := Try.checked) false ⟨#[], #[.agg #[.int .i64 0, .int .i64 0, .int .i64 0, .int .u64 0, .int .i64 0, .int .i64 0, .bool false, .bool false, .int .u64 0, .int .u64 0, .int .u64 0, .int .u64 0, .int .u64 0, .int .u64 0, .int .u64 0, .int .u64 0]], []⟩ 8 (by kernel_rfl) (by kernel_rfl) (by kernel_rfl) (by kernel_rfl)) ?_
  intro W base args ds gs before hval0 hW hcnd hsz _
  have hval : ∀ (j : Nat) t v, Try.f9.params[j]? = some t → args[j]? = some v → Value.okWide Try.prog W .any base t v := hval0
  have hW' := hW
  obtain ⟨p, q, hA0, hV, rfl, hfz, hnd⟩ := hW
  have hA : DataW.TrodAll enc Try.prog W 0 (fun _ => true) true Try.f9.params.toList args.toList ds p := hA0
  rw [Try.params9] at hA hval
  obtain ⟨v0, vs0, d0, ds0, p0, q0, hargs, rfl, rfl, h0, r0⟩ := trodAll_cons hA
  obtain ⟨rfl, rfl, rfl⟩ := trodAll_nil r0
  obtain rfl : args = #[v0] := by cases args; simp_all
  obtain ⟨rfl, rfl⟩ := trodVars_none hV
  have lt0 : ∀ x ∈ p0, x.block < W.heap.size := by obtain ⟨m, hm⟩ := id h0; exact DataW.trod_lt m _ _ _ hm
  obtain ⟨cs0, rfl, lv0⟩ := agg_in flatStp (by kernel_rfl) (okWide_agg (.inl ⟨_, Try.underlying52⟩) (hval 0 52 v0 rfl rfl)) h0
  obtain ⟨x0, rfl⟩ := decStp cs0 lv0
  have hc := calls_true (w := W) (es := []) (args := [.agg (encStp x0).toArray]) (cargs := #[.agg (encStp x0).toArray]) (by kernel_rfl) Try.func9 (by kernel_rfl) (by kernel_rfl)
    (by intro e he; simp at he) (.cons (agg_vr lv0 _) .nil)
    (fun K hK => AgentNone_spec  _ hK)
  refine hc.mono fun e W' ⟨he, bel⟩ => ?_
  subst he
  exact ⟨_, rfl, _, _, _, [], _, [], hW', trodAll_mk1 (shut_bool Try.underlying4 _), (trodAll_cons_mk (Below.trod laidOut (by kernel_rfl) (of_decide_eq_true (by kernel_rfl)) h0 bel lt0) trodAll_mk0), rfl, bel.frame _, fun h => by cases h⟩

theorem over : Rows.agentNoneRow.holds Try.pinned (OpenSpec.ofChange Rows.agentNoneSpec) :=
  OpenClaim.holds_of_wide 9 Try.f9 rfl rfl rfl rfl rfl rfl rfl ⟨rfl, rfl, rfl, rfl, rfl⟩ rfl rfl rfl rfl rfl (by kernel_rfl) Try.func9 (by kernel_rfl)
    (of_decide_eq_true (by kernel_rfl)) (by unfold Func.isWrapper; first | (rw [if_pos (by decide +kernel)]; kernel_rfl) | (rw [if_neg (by decide +kernel)]; exact ⟨rfl, rfl⟩))
    (fun os started H enc _ => lifted os started H enc)

theorem proved : Rows.AgentNoneSaid := over

end Go.Proofs.Ytncodeibkmekmab.GN
