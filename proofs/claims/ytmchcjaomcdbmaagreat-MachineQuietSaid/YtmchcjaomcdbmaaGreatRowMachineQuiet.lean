import Derived.Test.YtmchcjaomcdbmaaGreatSpecMachineQuiet
import Derived.Test.YtmchcjaomcdbmaaGreatRows
/- The statement: for every input the law's call returns true, and each argument reads as it did; no further conditions. -/
set_option linter.all false
set_option linter.deprecated false
namespace Go.Proofs.YtmchcjaomcdbmaaGreat.MQT
open Go.ChangeShapes Go.WideShapes Go.ChangeAt Go.RowKit Go.Proofs.YtmchcjaomcdbmaaGreat.Abs Go.Proofs.YtmchcjaomcdbmaaGreat.Gen
theorem own : ownKnob Tryz.prog.godebug = none := by kernel_rfl
theorem laidOut : laidOutB Tryz.prog = true := by kernel_rfl
theorem Xih : XdW Tryz.prog 8 70 = some [.i .i64, .i .i64, .i .i64, .i .i64, .i .i64, .i .i64, .i .i64, .s [.i .u64, .i .u64, .i .u64, .i .u64, .i .u64, .i .u64, .i .u64, .i .u64], .s [.s [.i .u64]], .s [.i .u64]] := by kernel_rfl
theorem Qia : XdW Tryz.prog 8 71 = some [.s [.i .i64, .i .i64, .i .i64]] := by kernel_rfl
set_option maxRecDepth 100000 in
theorem lifted (os : Os) (started : os.Started) (H : Type) (enc : TypeId × Value → H) :
    ReturnsInHanded {} Tryz.checked os 9 .any (Rows.machineQuietSpec.pre6 enc Tryz.prog Tryz.f9 Rows.machineQuietRow.domain false) (Rows.machineQuietSpec.post enc Tryz.prog Tryz.f9 false true false false) := by
  refine returnsInHanded_of_change_sized (C := Tryz.checked) own started (by kernel_rfl) Tryz.func9
    (ChangeSpec.witness6 (enc := enc) (C := Tryz.checked) false ⟨#[], #[.agg #[.int .i64 0, .int .i64 0, .int .i64 0, .int .i64 0, .int .i64 0, .int .i64 0, .int .i64 0, .slice none 0 0, .slice none 0 0, .slice none 0 0], .slice none 0 0], []⟩ 8 (by kernel_rfl) (by kernel_rfl) (by kernel_rfl) (by kernel_rfl)) ?_
  intro W base args ds gs before hval0 hW hcnd hsz _
  have hval : ∀ (j : Nat) t v, Tryz.f9.params[j]? = some t → args[j]? = some v → Value.okWide Tryz.prog W .any base t v := hval0
  have hW' := hW
  obtain ⟨p, q, hA0, hV, rfl, hfz, hnd⟩ := hW
  have hA : DataW.TrodAll enc Tryz.prog W 0 (fun _ => true) true Tryz.f9.params.toList args.toList ds p := hA0
  rw [Tryz.params9] at hA hval
  obtain ⟨v0, vs0, d0, ds0, p0, q0, hargs, rfl, rfl, h0, r0⟩ := trodAll_cons hA
  obtain ⟨v1, vs1, d1, ds1, p1, q1, rfl, rfl, rfl, h1, r1⟩ := trodAll_cons r0
  obtain ⟨rfl, rfl, rfl⟩ := trodAll_nil r1
  obtain rfl : args = #[v0, v1] := by cases args; simp_all
  obtain ⟨rfl, rfl⟩ := trodVars_none hV
  have lt0 : ∀ x ∈ p0, x.block < W.heap.size := by obtain ⟨m, hm⟩ := id h0; exact DataW.trod_lt m _ _ _ hm
  have lt1 : ∀ x ∈ p1, x.block < W.heap.size := by obtain ⟨m, hm⟩ := id h1; exact DataW.trod_lt m _ _ _ hm
  have g0 : Qh9 W (true, [.i .i64, .i .i64, .i .i64, .i .i64, .i .i64, .i .i64, .i .i64, .s [.i .u64, .i .u64, .i .u64, .i .u64, .i .u64, .i .u64, .i .u64, .i .u64], .s [.s [.i .u64]], .s [.i .u64]]) v0 := Xim (j := 0) (b := true) Xih (by kernel_rfl) (ZfI (.inl ⟨_, Tryz.underlying70⟩) (hval 0 70 v0 rfl rfl)) h0 hsz rfl rfl
  have g1 : Qh9 W (false, [.s [.i .i64, .i .i64, .i .i64]]) v1 := Xim (j := 1) (b := false) Qia (by kernel_rfl) (JfF (okWide_slice Tryz.underlying71 (hval 1 71 v1 rfl rfl))) h1 hsz rfl rfl
  have hc := XeX (w := W) (ks := [(true, [.i .i64, .i .i64, .i .i64, .i .i64, .i .i64, .i .i64, .i .i64, .s [.i .u64, .i .u64, .i .u64, .i .u64, .i .u64, .i .u64, .i .u64, .i .u64], .s [.s [.i .u64]], .s [.i .u64]]), (false, [.s [.i .i64, .i .i64, .i .i64]])]) (cargs := #[v0, v1]) (by kernel_rfl) (Jg7 (ZdM (by kernel_rfl)) Xic) Tryz.func9 (by kernel_rfl) (by kernel_rfl)
    (.cons g0 (.cons g1 .nil)) (fun g n args hr K hK => Jdh hr hK)
  refine hc.mono fun e W' ⟨he, bel⟩ => ?_
  subst he
  exact ⟨_, rfl, _, _, _, [], _, [], hW', trodAll_mk1 (shut_bool Tryz.underlying4 _), (trodAll_cons_mk (Below.trod laidOut (by kernel_rfl) (of_decide_eq_true (by kernel_rfl)) h0 bel lt0) (trodAll_cons_mk (Below.trod laidOut (by kernel_rfl) (of_decide_eq_true (by kernel_rfl)) h1 bel lt1) trodAll_mk0)), rfl, bel.frame _, fun h => by cases h⟩

theorem Qh0 {a b : Bool} (ha : a = true) (hb : b = true) : (a && b) = true := by rw [ha, hb]; rfl
set_option maxHeartbeats 8000000 in
theorem XhN : joinedFacts Tryz.pinned.checked.prog 9 Tryz.f9 Rows.machineQuietSpec Rows.machineQuietRow = true := by
  unfold joinedFacts
  repeat' (with_reducible refine Qh0 ?_ ?_)
  all_goals (as_aux_lemma => kernel_rfl)

theorem over : Rows.machineQuietRow.holds Tryz.pinned (OpenSpec.ofChange Rows.machineQuietSpec) :=
  OpenClaim.holds_of_wide 9 Tryz.f9 rfl rfl rfl rfl rfl rfl rfl ⟨rfl, rfl, rfl, rfl, rfl⟩ rfl rfl rfl rfl rfl (by kernel_rfl) Tryz.func9 XhN
    (of_decide_eq_true (by kernel_rfl)) (by unfold Func.isWrapper; first | (rw [if_pos (by decide +kernel)]; kernel_rfl) | (rw [if_neg (by decide +kernel)]; exact ⟨rfl, rfl⟩))
    (fun os started H enc _ => lifted os started H enc)

theorem proved : Rows.MachineQuietSaid := over

end Go.Proofs.YtmchcjaomcdbmaaGreat.MQT
