import Derived.Test.YtkdfaijmjmnhjaaGreatSpecOwn
import Derived.Test.YtkdfaijmjmnhjaaGreatRows
/- The statement: for every input the law's call returns true, and each argument reads as it did; no further conditions. -/
set_option linter.all false
set_option linter.deprecated false
namespace Go.Proofs.YtkdfaijmjmnhjaaGreat.COW
open Go.ChangeShapes Go.WideShapes Go.ChangeAt Go.RowKit Go.Proofs.YtkdfaijmjmnhjaaGreat.Abs Go.Proofs.YtkdfaijmjmnhjaaGreat.Gen
theorem own : ownKnob Tryz.prog.godebug = none := by kernel_rfl
theorem laidOut : laidOutB Tryz.prog = true := by kernel_rfl
theorem Jhf : Xdd Tryz.prog 8 54 = some [.s [.i .u8]] := by kernel_rfl
theorem Qhg : Xdd Tryz.prog 8 54 = some [.s [.i .u8]] := by kernel_rfl
set_option maxRecDepth 100000 in
theorem lifted (os : Os) (started : os.Started) (H : Type) (enc : TypeId × Value → H) :
    ReturnsInHanded {} Tryz.checked os 4 .any (Rows.coreOwnSpec.pre6 enc Tryz.prog Tryz.f4 Rows.coreOwnRow.domain false) (Rows.coreOwnSpec.post enc Tryz.prog Tryz.f4 false true false false) := by
  refine returnsInHanded_of_change_sized (C := Tryz.checked) own started (by kernel_rfl) Tryz.func4
    (ChangeSpec.witness6 (enc := enc) (C := Tryz.checked) false ⟨#[], #[.slice none 0 0, .slice none 0 0], []⟩ 8 (by kernel_rfl) (by kernel_rfl) (by kernel_rfl) (by kernel_rfl)) ?_
  intro W base args ds gs before hval0 hW hcnd hsz _
  have hval : ∀ (j : Nat) t v, Tryz.f4.params[j]? = some t → args[j]? = some v → Value.okWide Tryz.prog W .any base t v := hval0
  have hW' := hW
  obtain ⟨p, q, hA0, hV, rfl, hfz, hnd⟩ := hW
  have hA : DataW.TrodAll enc Tryz.prog W 0 (fun _ => true) true Tryz.f4.params.toList args.toList ds p := hA0
  rw [Tryz.params4] at hA hval
  obtain ⟨v0, vs0, d0, ds0, p0, q0, hargs, rfl, rfl, h0, r0⟩ := trodAll_cons hA
  obtain ⟨v1, vs1, d1, ds1, p1, q1, rfl, rfl, rfl, h1, r1⟩ := trodAll_cons r0
  obtain ⟨rfl, rfl, rfl⟩ := trodAll_nil r1
  obtain rfl : args = #[v0, v1] := by cases args; simp_all
  obtain ⟨rfl, rfl⟩ := trodVars_none hV
  have lt0 : ∀ x ∈ p0, x.block < W.heap.size := by obtain ⟨m, hm⟩ := id h0; exact DataW.trod_lt m _ _ _ hm
  have lt1 : ∀ x ∈ p1, x.block < W.heap.size := by obtain ⟨m, hm⟩ := id h1; exact DataW.trod_lt m _ _ _ hm
  have g0 : Qhd W (false, [.s [.i .u8]]) v0 := Xhq (j := 0) (b := false) Jhf (by kernel_rfl) (Jdj (okWide_slice Tryz.underlying54 (hval 0 54 v0 rfl rfl))) h0 hsz rfl rfl
  have g1 : Qhd W (false, [.s [.i .u8]]) v1 := Xhq (j := 1) (b := false) Qhg (by kernel_rfl) (Jdj (okWide_slice Tryz.underlying54 (hval 1 54 v1 rfl rfl))) h1 hsz rfl rfl
  have hc := Zeq (w := W) (ks := [(false, [.s [.i .u8]]), (false, [.s [.i .u8]])]) (cargs := #[v0, v1]) (by kernel_rfl) (Zf0 (Jc3 (by kernel_rfl)) Jhn) Tryz.func4 (by kernel_rfl) (by kernel_rfl)
    (.cons g0 (.cons g1 .nil)) (fun g n args hr K hK => Jec hr hK)
  refine hc.mono fun e W' ⟨he, bel⟩ => ?_
  subst he
  exact ⟨_, rfl, _, _, _, [], _, [], hW', trodAll_mk1 (shut_bool Tryz.underlying4 _), (trodAll_cons_mk (Below.trod laidOut (by kernel_rfl) (of_decide_eq_true (by kernel_rfl)) h0 bel lt0) (trodAll_cons_mk (Below.trod laidOut (by kernel_rfl) (of_decide_eq_true (by kernel_rfl)) h1 bel lt1) trodAll_mk0)), rfl, bel.frame _, fun h => by cases h⟩

theorem over : Rows.coreOwnRow.holds Tryz.pinned (OpenSpec.ofChange Rows.coreOwnSpec) :=
  OpenClaim.holds_of_wide 4 Tryz.f4 rfl rfl rfl rfl rfl rfl rfl ⟨rfl, rfl, rfl, rfl, rfl⟩ rfl rfl rfl rfl rfl (by kernel_rfl) Tryz.func4 (by kernel_rfl)
    (of_decide_eq_true (by kernel_rfl)) (by unfold Func.isWrapper; first | (rw [if_pos (by decide +kernel)]; kernel_rfl) | (rw [if_neg (by decide +kernel)]; exact ⟨rfl, rfl⟩))
    (fun os started H enc _ => lifted os started H enc)

theorem proved : Rows.CoreOwnSaid := over

end Go.Proofs.YtkdfaijmjmnhjaaGreat.COW
