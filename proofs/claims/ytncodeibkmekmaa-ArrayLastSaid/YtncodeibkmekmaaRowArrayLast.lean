import Derived.Test.YtncodeibkmekmaaSpecArrayLast
import Derived.Test.YtncodeibkmekmaaRows
/- The statement: for every input the law's call returns true, and each argument reads as it did; no further conditions. -/
set_option linter.all false
set_option linter.deprecated false
namespace Go.Proofs.Ytncodeibkmekmaa.AL
open Go.ChangeShapes Go.WideShapes Go.ChangeAt Go.RowKit Go.Proofs.Ytncodeibkmekmaa.Abs Go.Proofs.Ytncodeibkmekmaa.Gen
theorem own : ownKnob Try.prog.godebug = none := by kernel_rfl
theorem laidOut : laidOutB Try.prog = true := by kernel_rfl
theorem decB (c : List Value) (h : okLeaves [.i .u8] c) : ∃ x : Int, c = encB x := by
  match c, h with
  | [.int _ a], ⟨⟨rfl, _⟩, _⟩ => exact ⟨a, rfl⟩
theorem u8rng {x : Int} (h : (Lit.int .u8 x).wf = true) : 0 ≤ x ∧ x ≤ 255 := by
  simp only [Lit.wf, Bool.and_eq_true, decide_eq_true_eq] at h
  have e1 : IntKind.u8.min = 0 := rfl
  have e2 : IntKind.u8.max = 255 := rfl
  rw [e1, e2] at h
  exact h
theorem rngB {xs : List Int} (h : ∀ c ∈ xs.map encB, okLeaves [.i .u8] c) : ∀ x ∈ xs, 0 ≤ x ∧ x ≤ 255 := fun x hx => u8rng (h (encB x) (List.mem_map_of_mem hx)).1.2
theorem flatB : flatK Try.prog 6 5 = some [.i .u8] := by kernel_rfl

set_option maxRecDepth 100000 in
theorem lifted (os : Os) (started : os.Started) (H : Type) (enc : TypeId × Value → H) :
    ReturnsInHanded {} Try.checked os 10 .any (Rows.arrayLastSpec.pre6 enc Try.prog Try.f10 Rows.arrayLastRow.domain false) (Rows.arrayLastSpec.post enc Try.prog Try.f10 false true false false) := by
  refine returnsInHanded_of_change_sized (C := Try.checked) own started (by kernel_rfl) Try.func10
    (ChangeSpec.witness6 (enc := enc) (C := Try.checked) false ⟨#[], #[.int .u8 0, .slice none 0 0], []⟩ 8 (by kernel_rfl) (by kernel_rfl) (by kernel_rfl) (by kernel_rfl)) ?_
  intro W base args ds gs before hval0 hW hcnd hsz _
  have hval : ∀ (j : Nat) t v, Try.f10.params[j]? = some t → args[j]? = some v → Value.okWide Try.prog W .any base t v := hval0
  have hW' := hW
  obtain ⟨p, q, hA0, hV, rfl, hfz, hnd⟩ := hW
  have hA : DataW.TrodAll enc Try.prog W 0 (fun _ => true) true Try.f10.params.toList args.toList ds p := hA0
  rw [Try.params10] at hA hval
  obtain ⟨v0, vs0, d0, ds0, p0, q0, hargs, rfl, rfl, h0, r0⟩ := trodAll_cons hA
  obtain ⟨v1, vs1, d1, ds1, p1, q1, rfl, rfl, rfl, h1, r1⟩ := trodAll_cons r0
  obtain ⟨rfl, rfl, rfl⟩ := trodAll_nil r1
  obtain rfl : args = #[v0, v1] := by cases args; simp_all
  obtain ⟨rfl, rfl⟩ := trodVars_none hV
  have lt0 : ∀ x ∈ p0, x.block < W.heap.size := by obtain ⟨m, hm⟩ := id h0; exact DataW.trod_lt m _ _ _ hm
  have lt1 : ∀ x ∈ p1, x.block < W.heap.size := by obtain ⟨m, hm⟩ := id h1; exact DataW.trod_lt m _ _ _ hm
  obtain ⟨a0, rfl, e0, _, w0⟩ := open_int Try.underlying5 (hval 0 5 v0 rfl rfl) h0
  obtain ⟨ent1, els1, av1, ok1, lv1, rd1⟩ := slice_in (j := 1) Try.underlying37 flatB (by kernel_rfl) (by decide) (of_decide_eq_true (by kernel_rfl)) (okWide_slice Try.underlying37 (hval 1 37 v1 rfl rfl)) h1 hsz rfl rfl
  obtain ⟨xs1, rfl⟩ := dec_all decB els1 lv1
  have hc := calls_true (w := W) (es := [ent1]) (args := [.int .u8 a0, av1 0]) (cargs := #[.int .u8 a0, v1]) (by kernel_rfl) Try.func10 (by kernel_rfl) (by kernel_rfl)
    (by intro e he; simp at he; subst he; assumption) (.cons (.int _ _) (.cons (rd1 _ 0 rfl).1 .nil))
    (fun K hK => ArrayLast_spec (sl_in (rd1 _ 0 rfl).2) (rngB lv1) (u8rng w0) hK)
  refine hc.mono fun e W' ⟨he, bel⟩ => ?_
  subst he
  exact ⟨_, rfl, _, _, _, [], _, [], hW', trodAll_mk1 (shut_bool Try.underlying4 _), (trodAll_cons_mk (Below.trod laidOut (by kernel_rfl) (of_decide_eq_true (by kernel_rfl)) h0 bel lt0) (trodAll_cons_mk (Below.trod laidOut (by kernel_rfl) (of_decide_eq_true (by kernel_rfl)) h1 bel lt1) trodAll_mk0)), rfl, bel.frame _, fun h => by cases h⟩

theorem over : Rows.arrayLastRow.holds Try.pinned (OpenSpec.ofChange Rows.arrayLastSpec) :=
  OpenClaim.holds_of_wide 10 Try.f10 rfl rfl rfl rfl rfl rfl rfl ⟨rfl, rfl, rfl, rfl, rfl⟩ rfl rfl rfl rfl rfl (by kernel_rfl) Try.func10 (by kernel_rfl)
    (of_decide_eq_true (by kernel_rfl)) (by unfold Func.isWrapper; first | (rw [if_pos (by decide +kernel)]; kernel_rfl) | (rw [if_neg (by decide +kernel)]; exact ⟨rfl, rfl⟩))
    (fun os started H enc _ => lifted os started H enc)

theorem proved : Rows.ArrayLastSaid := over

end Go.Proofs.Ytncodeibkmekmaa.AL
