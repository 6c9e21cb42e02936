import Derived.Test.YtncodeibkmekmaaSpecArrayKeeps
import Derived.Test.YtncodeibkmekmaaRows
/- The statement: for every input the law's call returns true, and each argument reads as it did; no further conditions. -/
set_option linter.all false
set_option linter.deprecated false
namespace Go.Proofs.Ytncodeibkmekmaa.AK
open Go.ChangeShapes Go.WideShapes Go.ChangeAt Go.RowKit Go.Proofs.Ytncodeibkmekmaa.Abs Go.Proofs.Ytncodeibkmekmaa.Gen
theorem own : ownKnob Try.prog.godebug = none := by kernel_rfl
theorem laidOut : laidOutB Try.prog = true := by kernel_rfl
theorem decL (c : List Value) (h : okLeaves [.i .u64, .i .u64, .i .u64, .i .u64, .i .u64, .i .u64, .i .u64, .i .u64] c) : ∃ x : Ln, c = encL x := by
  obtain ⟨x0, c0, e0, h⟩ := ok_i h
  obtain ⟨x1, c1, e1, h⟩ := ok_i h
  obtain ⟨x2, c2, e2, h⟩ := ok_i h
  obtain ⟨x3, c3, e3, h⟩ := ok_i h
  obtain ⟨x4, c4, e4, h⟩ := ok_i h
  obtain ⟨x5, c5, e5, h⟩ := ok_i h
  obtain ⟨x6, c6, e6, h⟩ := ok_i h
  obtain ⟨x7, c7, e7, h⟩ := ok_i h
  have e := ok_nil h
  subst e e7 e6 e5 e4 e3 e2 e1 e0
  exact ⟨⟨[x0, x1, x2, x3, x4, x5, x6, x7], rfl⟩, rfl⟩
theorem flatL : flatK Try.prog 6 42 = some [.i .u64, .i .u64, .i .u64, .i .u64, .i .u64, .i .u64, .i .u64, .i .u64] := by kernel_rfl
theorem decB (c : List Value) (h : okLeaves [.i .u8] c) : ∃ x : Int, c = encB x := by
  match c, h with
  | [.int _ a], ⟨⟨rfl, _⟩, _⟩ => exact ⟨a, rfl⟩
theorem u8rng {x : Int} (h : (Lit.int .u8 x).wf = true) : 0 ≤ x ∧ x ≤ 255 := by
  simp only [Lit.wf, Bool.and_eq_true, decide_eq_true_eq] at h
  have e1 : IntKind.u8.min = 0 := rfl
  have e2 : IntKind.u8.max = 255 := rfl
  rw [e1, e2] at h
  exact h
theorem rngB {xs : List Int} (h : ∀ c ∈ xs.map encB, okLeaves [.i .u8] c) : ∀ x ∈ xs, 0 ≤ x ∧ x ≤ 255 := fun x hx => u8rng (h (encB x) (List.mem_map_of_mem hx)).1.2
theorem flatB : flatK Try.prog 6 5 = some [.i .u8] := by kernel_rfl

set_option maxRecDepth 100000 in
theorem lifted (os : Os) (started : os.Started) (H : Type) (enc : TypeId × Value → H) :
    ReturnsInHanded {} Try.checked os 6 .any (Rows.arrayKeepsSpec.pre6 enc Try.prog Try.f6 Rows.arrayKeepsRow.domain false) (Rows.arrayKeepsSpec.post enc Try.prog Try.f6 false true false false) := by
  refine returnsInHanded_of_change_sized (C := Try.checked) own started (by kernel_rfl) Try.func6
    (ChangeSpec.witness6 (enc := enc) (C := Try.checked) false ⟨#[], #[.agg #[.int .u64 0, .int .u64 0, .int .u64 0, .int .u64 0, .int .u64 0, .int .u64 0, .int .u64 0, .int .u64 0], .slice none 0 0], []⟩ 8 (by kernel_rfl) (by kernel_rfl) (by kernel_rfl) (by kernel_rfl)) ?_
  intro W base args ds gs before hval0 hW hcnd hsz _
  have hval : ∀ (j : Nat) t v, Try.f6.params[j]? = some t → args[j]? = some v → Value.okWide Try.prog W .any base t v := hval0
  have hW' := hW
  obtain ⟨p, q, hA0, hV, rfl, hfz, hnd⟩ := hW
  have hA : DataW.TrodAll enc Try.prog W 0 (fun _ => true) true Try.f6.params.toList args.toList ds p := hA0
  rw [Try.params6] at hA hval
  obtain ⟨v0, vs0, d0, ds0, p0, q0, hargs, rfl, rfl, h0, r0⟩ := trodAll_cons hA
  obtain ⟨v1, vs1, d1, ds1, p1, q1, rfl, rfl, rfl, h1, r1⟩ := trodAll_cons r0
  obtain ⟨rfl, rfl, rfl⟩ := trodAll_nil r1
  obtain rfl : args = #[v0, v1] := by cases args; simp_all
  obtain ⟨rfl, rfl⟩ := trodVars_none hV
  have lt0 : ∀ x ∈ p0, x.block < W.heap.size := by obtain ⟨m, hm⟩ := id h0; exact DataW.trod_lt m _ _ _ hm
  have lt1 : ∀ x ∈ p1, x.block < W.heap.size := by obtain ⟨m, hm⟩ := id h1; exact DataW.trod_lt m _ _ _ hm
  obtain ⟨cs0, rfl, lv0⟩ := agg_in flatL (by kernel_rfl) (okWide_agg (.inr ⟨_, _, Try.underlying42⟩) (hval 0 42 v0 rfl rfl)) h0
  obtain ⟨x0, rfl⟩ := decL cs0 lv0
  obtain ⟨ent1, els1, av1, ok1, lv1, rd1⟩ := slice_in (j := 1) Try.underlying37 flatB (by kernel_rfl) (by decide) (of_decide_eq_true (by kernel_rfl)) (okWide_slice Try.underlying37 (hval 1 37 v1 rfl rfl)) h1 hsz rfl rfl
  obtain ⟨xs1, rfl⟩ := dec_all decB els1 lv1
  have hc := calls_true (w := W) (es := [ent1]) (args := [.agg (encL x0).toArray, av1 0]) (cargs := #[.agg (encL x0).toArray, v1]) (by kernel_rfl) Try.func6 (by kernel_rfl) (by kernel_rfl)
    (by intro e he; simp at he; subst he; assumption) (.cons (agg_vr lv0 _) (.cons (rd1 _ 0 rfl).1 .nil))
    (fun K hK => ArrayKeeps_spec (sl_in (rd1 _ 0 rfl).2) (rngB lv1) hK)
  refine hc.mono fun e W' ⟨he, bel⟩ => ?_
  subst he
  exact ⟨_, rfl, _, _, _, [], _, [], hW', trodAll_mk1 (shut_bool Try.underlying4 _), (trodAll_cons_mk (Below.trod laidOut (by kernel_rfl) (of_decide_eq_true (by kernel_rfl)) h0 bel lt0) (trodAll_cons_mk (Below.trod laidOut (by kernel_rfl) (of_decide_eq_true (by kernel_rfl)) h1 bel lt1) trodAll_mk0)), rfl, bel.frame _, fun h => by cases h⟩

theorem over : Rows.arrayKeepsRow.holds Try.pinned (OpenSpec.ofChange Rows.arrayKeepsSpec) :=
  OpenClaim.holds_of_wide 6 Try.f6 rfl rfl rfl rfl rfl rfl rfl ⟨rfl, rfl, rfl, rfl, rfl⟩ rfl rfl rfl rfl rfl (by kernel_rfl) Try.func6 (by kernel_rfl)
    (of_decide_eq_true (by kernel_rfl)) (by unfold Func.isWrapper; first | (rw [if_pos (by decide +kernel)]; kernel_rfl) | (rw [if_neg (by decide +kernel)]; exact ⟨rfl, rfl⟩))
    (fun os started H enc _ => lifted os started H enc)

theorem proved : Rows.ArrayKeepsSaid := over

end Go.Proofs.Ytncodeibkmekmaa.AK
