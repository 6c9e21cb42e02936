import Derived.Test.YtmchcjaomcdbmaaGreatSpecMesiDrops
import Derived.Test.YtmchcjaomcdbmaaGreatRows
/- The statement: for every input the law's call returns true, and each argument reads as it did; no further conditions. -/
set_option linter.all false
set_option linter.deprecated false
namespace Go.Proofs.YtmchcjaomcdbmaaGreat.DRP
open Go.ChangeShapes Go.WideShapes Go.ChangeAt Go.RowKit Go.Proofs.YtmchcjaomcdbmaaGreat.Abs Go.Proofs.YtmchcjaomcdbmaaGreat.Gen
theorem own : ownKnob Tryz.prog.godebug = none := by kernel_rfl
theorem laidOut : laidOutB Tryz.prog = true := by kernel_rfl
theorem JgH : QcQ Tryz.prog 8 23 = some [.i .i64, .i .i64, .i .i64, .i .i64, .i .i64, .i .i64, .i .i64] := by kernel_rfl
theorem ZgB : QcQ Tryz.prog 8 34 = some [.i .i64, .i .i64, .i .i64, .i .i64, .i .u64] := by kernel_rfl
set_option maxRecDepth 100000 in
theorem lifted (os : Os) (started : os.Started) (H : Type) (enc : TypeId × Value → H) :
    ReturnsInHanded {} Tryz.checked os 4 .any (Rows.mesiDropsSpec.pre6 enc Tryz.prog Tryz.f4 Rows.mesiDropsRow.domain false) (Rows.mesiDropsSpec.post enc Tryz.prog Tryz.f4 false true false false) := by
  refine returnsInHanded_of_change_sized (C := Tryz.checked) own started (by kernel_rfl) Tryz.func4
    (ChangeSpec.witness6 (enc := enc) (C := Tryz.checked) false ⟨#[], #[.agg #[.int .i64 0, .int .i64 0, .int .i64 0, .int .i64 0, .int .i64 0, .int .i64 0, .int .i64 0], .agg #[.int .i64 0, .int .i64 0, .int .i64 0, .int .i64 0, .int .u64 0]], []⟩ 8 (by kernel_rfl) (by kernel_rfl) (by kernel_rfl) (by kernel_rfl)) ?_
  intro W base args ds gs before hval0 hW hcnd hsz _
  have hval : ∀ (j : Nat) t v, Tryz.f4.params[j]? = some t → args[j]? = some v → Value.okWide Tryz.prog W .any base t v := hval0
  have hW' := hW
  obtain ⟨p, q, hA0, hV, rfl, hfz, hnd⟩ := hW
  have hA : DataW.TrodAll enc Tryz.prog W 0 (fun _ => true) true Tryz.f4.params.toList args.toList ds p := hA0
  rw [Tryz.params4] at hA hval
  obtain ⟨v0, vs0, d0, ds0, p0, q0, hargs, rfl, rfl, h0, r0⟩ := trodAll_cons hA
  obtain ⟨v1, vs1, d1, ds1, p1, q1, rfl, rfl, rfl, h1, r1⟩ := trodAll_cons r0
  obtain ⟨rfl, rfl, rfl⟩ := trodAll_nil r1
  obtain rfl : args = #[v0, v1] := by cases args; simp_all
  obtain ⟨rfl, rfl⟩ := trodVars_none hV
  have lt0 : ∀ x ∈ p0, x.block < W.heap.size := by obtain ⟨m, hm⟩ := id h0; exact DataW.trod_lt m _ _ _ hm
  have lt1 : ∀ x ∈ p1, x.block < W.heap.size := by obtain ⟨m, hm⟩ := id h1; exact DataW.trod_lt m _ _ _ hm
  have g0 : Qgz W (true, [.i .i64, .i .i64, .i .i64, .i .i64, .i .i64, .i .i64, .i .i64]) v0 := ZgM (j := 0) (b := true) JgH (by kernel_rfl) (JcY (.inl ⟨_, Tryz.underlying23⟩) (hval 0 23 v0 rfl rfl)) h0 hsz rfl rfl
  have g1 : Qgz W (true, [.i .i64, .i .i64, .i .i64, .i .i64, .i .u64]) v1 := ZgM (j := 1) (b := true) ZgB (by kernel_rfl) (JcY (.inl ⟨_, Tryz.underlying34⟩) (hval 1 34 v1 rfl rfl)) h1 hsz rfl rfl
  have hc := ZdJ (w := W) (ks := [(true, [.i .i64, .i .i64, .i .i64, .i .i64, .i .i64, .i .i64, .i .i64]), (true, [.i .i64, .i .i64, .i .i64, .i .i64, .i .u64])]) (cargs := #[v0, v1]) (by kernel_rfl) (XfF (Xcy (by kernel_rfl)) XgA) Tryz.func4 (by kernel_rfl) (by kernel_rfl)
    (.cons g0 (.cons g1 .nil)) (fun g n args hr K hK => Qdc hr hK)
  refine hc.mono fun e W' ⟨he, bel⟩ => ?_
  subst he
  exact ⟨_, rfl, _, _, _, [], _, [], hW', trodAll_mk1 (shut_bool Tryz.underlying4 _), (trodAll_cons_mk (Below.trod laidOut (by kernel_rfl) (of_decide_eq_true (by kernel_rfl)) h0 bel lt0) (trodAll_cons_mk (Below.trod laidOut (by kernel_rfl) (of_decide_eq_true (by kernel_rfl)) h1 bel lt1) trodAll_mk0)), rfl, bel.frame _, fun h => by cases h⟩

theorem Zgw {a b : Bool} (ha : a = true) (hb : b = true) : (a && b) = true := by rw [ha, hb]; rfl
set_option maxHeartbeats 8000000 in
theorem Zf6 : joinedFacts Tryz.pinned.checked.prog 4 Tryz.f4 Rows.mesiDropsSpec Rows.mesiDropsRow = true := by
  unfold joinedFacts
  repeat' (with_reducible refine Zgw ?_ ?_)
  all_goals (as_aux_lemma => kernel_rfl)

theorem over : Rows.mesiDropsRow.holds Tryz.pinned (OpenSpec.ofChange Rows.mesiDropsSpec) :=
  OpenClaim.holds_of_wide 4 Tryz.f4 rfl rfl rfl rfl rfl rfl rfl ⟨rfl, rfl, rfl, rfl, rfl⟩ rfl rfl rfl rfl rfl (by kernel_rfl) Tryz.func4 Zf6
    (of_decide_eq_true (by kernel_rfl)) (by unfold Func.isWrapper; first | (rw [if_pos (by decide +kernel)]; kernel_rfl) | (rw [if_neg (by decide +kernel)]; exact ⟨rfl, rfl⟩))
    (fun os started H enc _ => lifted os started H enc)

theorem proved : Rows.MesiDropsSaid := over

end Go.Proofs.YtmchcjaomcdbmaaGreat.DRP
