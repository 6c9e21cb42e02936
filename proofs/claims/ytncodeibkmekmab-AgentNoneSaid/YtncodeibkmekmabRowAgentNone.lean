import Derived.Test.YtncodeibkmekmabSpecAgentNone
import Derived.Test.YtncodeibkmekmabRows
/- The statement: for every input the law's call returns true, and each argument reads as it did; no further conditions. -/
set_option linter.all false
set_option linter.deprecated false
namespace Go.Proofs.Ytncodeibkmekmab.GN
open Go.ChangeShapes Go.WideShapes Go.ChangeAt Go.RowKit Go.Proofs.Ytncodeibkmekmab.Abs Go.Proofs.Ytncodeibkmekmab.Gen
theorem own : ownKnob Try.prog.godebug = none := by kernel_rfl
theorem laidOut : laidOutB Try.prog = true := by kernel_rfl
theorem decX (c : List Value) (h : okLeaves [.i .i64, .i .i64, .i .i64, .i .u64, .i .i64, .i .i64, .b, .b, .i .u64, .i .u64, .i .u64, .i .u64, .i .u64, .i .u64, .i .u64, .i .u64] c) : ∃ x : Stp, c = encX x := by
  match c, h with
  | [.int _ a0, .int _ a1, .int _ a2, .int _ a3, .int _ a4, .int _ a5, .bool b0, .bool b1, .int _ d0, .int _ d1, .int _ d2, .int _ d3, .int _ d4, .int _ d5, .int _ d6, .int _ d7], ⟨⟨rfl, _⟩, ⟨rfl, _⟩, ⟨rfl, _⟩, ⟨rfl, _⟩, ⟨rfl, _⟩, ⟨rfl, _⟩, _, _, ⟨rfl, _⟩, ⟨rfl, _⟩, ⟨rfl, _⟩, ⟨rfl, _⟩, ⟨rfl, _⟩, ⟨rfl, _⟩, ⟨rfl, _⟩, ⟨rfl, _⟩, _⟩ => exact ⟨⟨a0, a1, a2, a3, a4, a5, b0, b1, d0, d1, d2, d3, d4, d5, d6, d7⟩, rfl⟩
theorem flatX : flatK Try.prog 6 52 = some [.i .i64, .i .i64, .i .i64, .i .u64, .i .i64, .i .i64, .b, .b, .i .u64, .i .u64, .i .u64, .i .u64, .i .u64, .i .u64, .i .u64, .i .u64] := by kernel_rfl

set_option maxRecDepth 100000 in
theorem lifted (os : Os) (started : os.Started) (H : Type) (enc : TypeId × Value → H) :
    ReturnsInHanded {} Try.checked os 9 .any (Rows.agentNoneSpec.pre6 enc Try.prog Try.f9 Rows.agentNoneRow.domain false) (Rows.agentNoneSpec.post enc Try.prog Try.f9 false true false false) := by
  refine returnsInHanded_of_change_sized (C := Try.checked) own started (by kernel_rfl) Try.func9
    (ChangeSpec.witness6 (enc := enc) (C := Try.checked) false ⟨#[], #[.agg #[.int .i64 0, .int .i64 0, .int .i64 0, .int .u64 0, .int .i64 0, .int .i64 0, .bool false, .bool false, .int .u64 0, .int .u64 0, .int .u64 0, .int .u64 0, .int .u64 0, .int .u64 0, .int .u64 0, .int .u64 0]], []⟩ 8 (by kernel_rfl) (by kernel_rfl) (by kernel_rfl) (by kernel_rfl)) ?_
  intro W base args ds gs before hval0 hW hcnd hsz _
  have hval : ∀ (j : Nat) t v, Try.f9.params[j]? = some t → args[j]? = some v → Value.okWide Try.prog W .any base t v := hval0
  have hW' := hW
  obtain ⟨p, q, hA0, hV, rfl, hfz, hnd⟩ := hW
  have hA : DataW.TrodAll enc Try.prog W 0 (fun _ => true) true Try.f9.params.toList args.toList ds p := hA0
  rw [Try.params9] at hA hval
  obtain ⟨v0, vs0, d0, ds0, p0, q0, hargs, rfl, rfl, h0, r0⟩ := trodAll_cons hA
  obtain ⟨rfl, rfl, rfl⟩ := trodAll_nil r0
  obtain rfl : args = #[v0] := by cases args; simp_all
  obtain ⟨rfl, rfl⟩ := trodVars_none hV
  have lt0 : ∀ x ∈ p0, x.block < W.heap.size := by obtain ⟨m, hm⟩ := id h0; exact DataW.trod_lt m _ _ _ hm
  obtain ⟨cs0, rfl, lv0⟩ := agg_in flatX (by kernel_rfl) (okWide_agg (.inl ⟨_, Try.underlying52⟩) (hval 0 52 v0 rfl rfl)) h0
  obtain ⟨x0, rfl⟩ := decX cs0 lv0
  have hc := calls_true (w := W) (es := []) (args := [.agg (encX x0).toArray]) (cargs := #[.agg (encX x0).toArray]) (by kernel_rfl) Try.func9 (by kernel_rfl) (by kernel_rfl)
    (by intro e he; simp at he) (.cons (agg_vr lv0 _) .nil)
    (fun K hK => AgentNone_spec  _ hK)
  refine hc.mono fun e W' ⟨he, bel⟩ => ?_
  subst he
  exact ⟨_, rfl, _, _, _, [], _, [], hW', trodAll_mk1 (shut_bool Try.underlying4 _), (trodAll_cons_mk (Below.trod laidOut (by kernel_rfl) (of_decide_eq_true (by kernel_rfl)) h0 bel lt0) trodAll_mk0), rfl, bel.frame _, fun h => by cases h⟩

theorem over : Rows.agentNoneRow.holds Try.pinned (OpenSpec.ofChange Rows.agentNoneSpec) :=
  OpenClaim.holds_of_wide 9 Try.f9 rfl rfl rfl rfl rfl rfl rfl ⟨rfl, rfl, rfl, rfl, rfl⟩ rfl rfl rfl rfl rfl (by kernel_rfl) Try.func9 (by kernel_rfl)
    (of_decide_eq_true (by kernel_rfl)) (by unfold Func.isWrapper; first | (rw [if_pos (by decide +kernel)]; kernel_rfl) | (rw [if_neg (by decide +kernel)]; exact ⟨rfl, rfl⟩))
    (fun os started H enc _ => lifted os started H enc)

theorem proved : Rows.AgentNoneSaid := over

end Go.Proofs.Ytncodeibkmekmab.GN
