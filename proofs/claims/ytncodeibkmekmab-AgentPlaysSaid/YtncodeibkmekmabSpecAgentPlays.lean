import Derived.Test.YtncodeibkmekmabSpecAgentPlaysA
/- What the functions come to. -/
set_option linter.all false
set_option linter.deprecated false
namespace Go.Proofs.Ytncodeibkmekmab.Gen
open Go Go.Proofs.Ytncodeibkmekmab.Abs Go.RowKit
variable {g : G} {n : Nat}
section
variable {line : Int} {dirty kept : Bool} {data : Ln} {K : Cont}
theorem rg1 (hlr : 0 ≤ line ∧ line < 64) (hK : ∀ n', K (.bool (goodM ⟨1, line, dirty, kept, data⟩)) g n') : bellowsref06_Good AC (.agg (encM ⟨1, line, dirty, kept, data⟩).toArray) g n K := by
  simp only [bellowsref06_Good, kAgg_a]
  intro hn
  have hs := (Sub.refl g).new hn (some (.cells (encM ⟨1, line, dirty, kept, data⟩) .exact))
  have hl := upd_same g n (some (.cells (encM ⟨1, line, dirty, kept, data⟩) .exact))
  generalize upd g n (some (.cells (encM ⟨1, line, dirty, kept, data⟩) .exact)) = g1 at *
  have leaf : ∀ (n' : Nat) (b : Bool), goodM ⟨1, line, dirty, kept, data⟩ = b → aRet K (.bool b) g1 n' := fun n' b h => by
    have k := hK n'
    rw [h] at k
    exact aRet_of hs k
  have ok : decide (1 ≤ (1 : Int) ∧ (1 : Int) ≤ 14 ∧ 0 ≤ line ∧ line < 64) = true := by rw [decide_eq_true_eq]; omega
  have h1 : decide (line < 0) = false := by rw [decide_eq_false_iff_not]; omega
  have h2 : decide (63 < line) = false := by rw [decide_eq_false_iff_not]; omega
  clear hK hn
  cases dirty <;> cases kept <;>
    (repeat (first
      | refine ldM0 hl ?_
      | refine ldM1 hl ?_
      | refine ldM2 hl ?_
      | refine ldM3 hl ?_
      | refine ldMd hl ?_
      | rw [kBin_eql]
      | rw [kBin_neq]
      | rw [kBin_lss]
      | rw [kBin_gtr]
      | rw [kUn_not]
      | refine kSplit_t rfl ?_
      | refine kSplit_f rfl ?_
      | refine kSplit_f h1 ?_
      | refine kSplit_f h2 ?_
      | refine rAsks_spec (fun _ => ?_)
      | refine rAnswers_spec (fun _ => ?_)
      | refine rTells_spec (fun _ => ?_)
      | rw [kFill_nil]
      | exact leaf _ _ (by unfold goodM; rw [ok]; rfl)
      | exact eqL data zeroL _ (leaf _ _ (by unfold goodM; rw [ok]; rfl))))
theorem rg2 (hlr : 0 ≤ line ∧ line < 64) (hK : ∀ n', K (.bool (goodM ⟨2, line, dirty, kept, data⟩)) g n') : bellowsref06_Good AC (.agg (encM ⟨2, line, dirty, kept, data⟩).toArray) g n K := by
  simp only [bellowsref06_Good, kAgg_a]
  intro hn
  have hs := (Sub.refl g).new hn (some (.cells (encM ⟨2, line, dirty, kept, data⟩) .exact))
  have hl := upd_same g n (some (.cells (encM ⟨2, line, dirty, kept, data⟩) .exact))
  generalize upd g n (some (.cells (encM ⟨2, line, dirty, kept, data⟩) .exact)) = g1 at *
  have leaf : ∀ (n' : Nat) (b : Bool), goodM ⟨2, line, dirty, kept, data⟩ = b → aRet K (.bool b) g1 n' := fun n' b h => by
    have k := hK n'
    rw [h] at k
    exact aRet_of hs k
  have ok : decide (1 ≤ (2 : Int) ∧ (2 : Int) ≤ 14 ∧ 0 ≤ line ∧ line < 64) = true := by rw [decide_eq_true_eq]; omega
  have h1 : decide (line < 0) = false := by rw [decide_eq_false_iff_not]; omega
  have h2 : decide (63 < line) = false := by rw [decide_eq_false_iff_not]; omega
  clear hK hn
  cases dirty <;> cases kept <;>
    (repeat (first
      | refine ldM0 hl ?_
      | refine ldM1 hl ?_
      | refine ldM2 hl ?_
      | refine ldM3 hl ?_
      | refine ldMd hl ?_
      | rw [kBin_eql]
      | rw [kBin_neq]
      | rw [kBin_lss]
      | rw [kBin_gtr]
      | rw [kUn_not]
      | refine kSplit_t rfl ?_
      | refine kSplit_f rfl ?_
      | refine kSplit_f h1 ?_
      | refine kSplit_f h2 ?_
      | refine rAsks_spec (fun _ => ?_)
      | refine rAnswers_spec (fun _ => ?_)
      | refine rTells_spec (fun _ => ?_)
      | rw [kFill_nil]
      | exact leaf _ _ (by unfold goodM; rw [ok]; rfl)
      | exact eqL data zeroL _ (leaf _ _ (by unfold goodM; rw [ok]; rfl))))
theorem rg3 (hlr : 0 ≤ line ∧ line < 64) (hK : ∀ n', K (.bool (goodM ⟨3, line, dirty, kept, data⟩)) g n') : bellowsref06_Good AC (.agg (encM ⟨3, line, dirty, kept, data⟩).toArray) g n K := by
  simp only [bellowsref06_Good, kAgg_a]
  intro hn
  have hs := (Sub.refl g).new hn (some (.cells (encM ⟨3, line, dirty, kept, data⟩) .exact))
  have hl := upd_same g n (some (.cells (encM ⟨3, line, dirty, kept, data⟩) .exact))
  generalize upd g n (some (.cells (encM ⟨3, line, dirty, kept, data⟩) .exact)) = g1 at *
  have leaf : ∀ (n' : Nat) (b : Bool), goodM ⟨3, line, dirty, kept, data⟩ = b → aRet K (.bool b) g1 n' := fun n' b h => by
    have k := hK n'
    rw [h] at k
    exact aRet_of hs k
  have ok : decide (1 ≤ (3 : Int) ∧ (3 : Int) ≤ 14 ∧ 0 ≤ line ∧ line < 64) = true := by rw [decide_eq_true_eq]; omega
  have h1 : decide (line < 0) = false := by rw [decide_eq_false_iff_not]; omega
  have h2 : decide (63 < line) = false := by rw [decide_eq_false_iff_not]; omega
  clear hK hn
  cases dirty <;> cases kept <;>
    (repeat (first
      | refine ldM0 hl ?_
      | refine ldM1 hl ?_
      | refine ldM2 hl ?_
      | refine ldM3 hl ?_
      | refine ldMd hl ?_
      | rw [kBin_eql]
      | rw [kBin_neq]
      | rw [kBin_lss]
      | rw [kBin_gtr]
      | rw [kUn_not]
      | refine kSplit_t rfl ?_
      | refine kSplit_f rfl ?_
      | refine kSplit_f h1 ?_
      | refine kSplit_f h2 ?_
      | refine rAsks_spec (fun _ => ?_)
      | refine rAnswers_spec (fun _ => ?_)
      | refine rTells_spec (fun _ => ?_)
      | rw [kFill_nil]
      | exact leaf _ _ (by unfold goodM; rw [ok]; rfl)
      | exact eqL data zeroL _ (leaf _ _ (by unfold goodM; rw [ok]; rfl))))
theorem rg4 (hlr : 0 ≤ line ∧ line < 64) (hK : ∀ n', K (.bool (goodM ⟨4, line, dirty, kept, data⟩)) g n') : bellowsref06_Good AC (.agg (encM ⟨4, line, dirty, kept, data⟩).toArray) g n K := by
  simp only [bellowsref06_Good, kAgg_a]
  intro hn
  have hs := (Sub.refl g).new hn (some (.cells (encM ⟨4, line, dirty, kept, data⟩) .exact))
  have hl := upd_same g n (some (.cells (encM ⟨4, line, dirty, kept, data⟩) .exact))
  generalize upd g n (some (.cells (encM ⟨4, line, dirty, kept, data⟩) .exact)) = g1 at *
  have leaf : ∀ (n' : Nat) (b : Bool), goodM ⟨4, line, dirty, kept, data⟩ = b → aRet K (.bool b) g1 n' := fun n' b h => by
    have k := hK n'
    rw [h] at k
    exact aRet_of hs k
  have ok : decide (1 ≤ (4 : Int) ∧ (4 : Int) ≤ 14 ∧ 0 ≤ line ∧ line < 64) = true := by rw [decide_eq_true_eq]; omega
  have h1 : decide (line < 0) = false := by rw [decide_eq_false_iff_not]; omega
  have h2 : decide (63 < line) = false := by rw [decide_eq_false_iff_not]; omega
  clear hK hn
  cases dirty <;> cases kept <;>
    (repeat (first
      | refine ldM0 hl ?_
      | refine ldM1 hl ?_
      | refine ldM2 hl ?_
      | refine ldM3 hl ?_
      | refine ldMd hl ?_
      | rw [kBin_eql]
      | rw [kBin_neq]
      | rw [kBin_lss]
      | rw [kBin_gtr]
      | rw [kUn_not]
      | refine kSplit_t rfl ?_
      | refine kSplit_f rfl ?_
      | refine kSplit_f h1 ?_
      | refine kSplit_f h2 ?_
      | refine rAsks_spec (fun _ => ?_)
      | refine rAnswers_spec (fun _ => ?_)
      | refine rTells_spec (fun _ => ?_)
      | rw [kFill_nil]
      | exact leaf _ _ (by unfold goodM; rw [ok]; rfl)
      | exact eqL data zeroL _ (leaf _ _ (by unfold goodM; rw [ok]; rfl))))
theorem rg5 (hlr : 0 ≤ line ∧ line < 64) (hK : ∀ n', K (.bool (goodM ⟨5, line, dirty, kept, data⟩)) g n') : bellowsref06_Good AC (.agg (encM ⟨5, line, dirty, kept, data⟩).toArray) g n K := by
  simp only [bellowsref06_Good, kAgg_a]
  intro hn
  have hs := (Sub.refl g).new hn (some (.cells (encM ⟨5, line, dirty, kept, data⟩) .exact))
  have hl := upd_same g n (some (.cells (encM ⟨5, line, dirty, kept, data⟩) .exact))
  generalize upd g n (some (.cells (encM ⟨5, line, dirty, kept, data⟩) .exact)) = g1 at *
  have leaf : ∀ (n' : Nat) (b : Bool), goodM ⟨5, line, dirty, kept, data⟩ = b → aRet K (.bool b) g1 n' := fun n' b h => by
    have k := hK n'
    rw [h] at k
    exact aRet_of hs k
  have ok : decide (1 ≤ (5 : Int) ∧ (5 : Int) ≤ 14 ∧ 0 ≤ line ∧ line < 64) = true := by rw [decide_eq_true_eq]; omega
  have h1 : decide (line < 0) = false := by rw [decide_eq_false_iff_not]; omega
  have h2 : decide (63 < line) = false := by rw [decide_eq_false_iff_not]; omega
  clear hK hn
  cases dirty <;> cases kept <;>
    (repeat (first
      | refine ldM0 hl ?_
      | refine ldM1 hl ?_
      | refine ldM2 hl ?_
      | refine ldM3 hl ?_
      | refine ldMd hl ?_
      | rw [kBin_eql]
      | rw [kBin_neq]
      | rw [kBin_lss]
      | rw [kBin_gtr]
      | rw [kUn_not]
      | refine kSplit_t rfl ?_
      | refine kSplit_f rfl ?_
      | refine kSplit_f h1 ?_
      | refine kSplit_f h2 ?_
      | refine rAsks_spec (fun _ => ?_)
      | refine rAnswers_spec (fun _ => ?_)
      | refine rTells_spec (fun _ => ?_)
      | rw [kFill_nil]
      | exact leaf _ _ (by unfold goodM; rw [ok]; rfl)
      | exact eqL data zeroL _ (leaf _ _ (by unfold goodM; rw [ok]; rfl))))
theorem rg6 (hlr : 0 ≤ line ∧ line < 64) (hK : ∀ n', K (.bool (goodM ⟨6, line, dirty, kept, data⟩)) g n') : bellowsref06_Good AC (.agg (encM ⟨6, line, dirty, kept, data⟩).toArray) g n K := by
  simp only [bellowsref06_Good, kAgg_a]
  intro hn
  have hs := (Sub.refl g).new hn (some (.cells (encM ⟨6, line, dirty, kept, data⟩) .exact))
  have hl := upd_same g n (some (.cells (encM ⟨6, line, dirty, kept, data⟩) .exact))
  generalize upd g n (some (.cells (encM ⟨6, line, dirty, kept, data⟩) .exact)) = g1 at *
  have leaf : ∀ (n' : Nat) (b : Bool), goodM ⟨6, line, dirty, kept, data⟩ = b → aRet K (.bool b) g1 n' := fun n' b h => by
    have k := hK n'
    rw [h] at k
    exact aRet_of hs k
  have ok : decide (1 ≤ (6 : Int) ∧ (6 : Int) ≤ 14 ∧ 0 ≤ line ∧ line < 64) = true := by rw [decide_eq_true_eq]; omega
  have h1 : decide (line < 0) = false := by rw [decide_eq_false_iff_not]; omega
  have h2 : decide (63 < line) = false := by rw [decide_eq_false_iff_not]; omega
  clear hK hn
  cases dirty <;> cases kept <;>
    (repeat (first
      | refine ldM0 hl ?_
      | refine ldM1 hl ?_
      | refine ldM2 hl ?_
      | refine ldM3 hl ?_
      | refine ldMd hl ?_
      | rw [kBin_eql]
      | rw [kBin_neq]
      | rw [kBin_lss]
      | rw [kBin_gtr]
      | rw [kUn_not]
      | refine kSplit_t rfl ?_
      | refine kSplit_f rfl ?_
      | refine kSplit_f h1 ?_
      | refine kSplit_f h2 ?_
      | refine rAsks_spec (fun _ => ?_)
      | refine rAnswers_spec (fun _ => ?_)
      | refine rTells_spec (fun _ => ?_)
      | rw [kFill_nil]
      | exact leaf _ _ (by unfold goodM; rw [ok]; rfl)
      | exact eqL data zeroL _ (leaf _ _ (by unfold goodM; rw [ok]; rfl))))
theorem rg7 (hlr : 0 ≤ line ∧ line < 64) (hK : ∀ n', K (.bool (goodM ⟨7, line, dirty, kept, data⟩)) g n') : bellowsref06_Good AC (.agg (encM ⟨7, line, dirty, kept, data⟩).toArray) g n K := by
  simp only [bellowsref06_Good, kAgg_a]
  intro hn
  have hs := (Sub.refl g).new hn (some (.cells (encM ⟨7, line, dirty, kept, data⟩) .exact))
  have hl := upd_same g n (some (.cells (encM ⟨7, line, dirty, kept, data⟩) .exact))
  generalize upd g n (some (.cells (encM ⟨7, line, dirty, kept, data⟩) .exact)) = g1 at *
  have leaf : ∀ (n' : Nat) (b : Bool), goodM ⟨7, line, dirty, kept, data⟩ = b → aRet K (.bool b) g1 n' := fun n' b h => by
    have k := hK n'
    rw [h] at k
    exact aRet_of hs k
  have ok : decide (1 ≤ (7 : Int) ∧ (7 : Int) ≤ 14 ∧ 0 ≤ line ∧ line < 64) = true := by rw [decide_eq_true_eq]; omega
  have h1 : decide (line < 0) = false := by rw [decide_eq_false_iff_not]; omega
  have h2 : decide (63 < line) = false := by rw [decide_eq_false_iff_not]; omega
  clear hK hn
  cases dirty <;> cases kept <;>
    (repeat (first
      | refine ldM0 hl ?_
      | refine ldM1 hl ?_
      | refine ldM2 hl ?_
      | refine ldM3 hl ?_
      | refine ldMd hl ?_
      | rw [kBin_eql]
      | rw [kBin_neq]
      | rw [kBin_lss]
      | rw [kBin_gtr]
      | rw [kUn_not]
      | refine kSplit_t rfl ?_
      | refine kSplit_f rfl ?_
      | refine kSplit_f h1 ?_
      | refine kSplit_f h2 ?_
      | refine rAsks_spec (fun _ => ?_)
      | refine rAnswers_spec (fun _ => ?_)
      | refine rTells_spec (fun _ => ?_)
      | rw [kFill_nil]
      | exact leaf _ _ (by unfold goodM; rw [ok]; rfl)
      | exact eqL data zeroL _ (leaf _ _ (by unfold goodM; rw [ok]; rfl))))
theorem rg8 (hlr : 0 ≤ line ∧ line < 64) (hK : ∀ n', K (.bool (goodM ⟨8, line, dirty, kept, data⟩)) g n') : bellowsref06_Good AC (.agg (encM ⟨8, line, dirty, kept, data⟩).toArray) g n K := by
  simp only [bellowsref06_Good, kAgg_a]
  intro hn
  have hs := (Sub.refl g).new hn (some (.cells (encM ⟨8, line, dirty, kept, data⟩) .exact))
  have hl := upd_same g n (some (.cells (encM ⟨8, line, dirty, kept, data⟩) .exact))
  generalize upd g n (some (.cells (encM ⟨8, line, dirty, kept, data⟩) .exact)) = g1 at *
  have leaf : ∀ (n' : Nat) (b : Bool), goodM ⟨8, line, dirty, kept, data⟩ = b → aRet K (.bool b) g1 n' := fun n' b h => by
    have k := hK n'
    rw [h] at k
    exact aRet_of hs k
  have ok : decide (1 ≤ (8 : Int) ∧ (8 : Int) ≤ 14 ∧ 0 ≤ line ∧ line < 64) = true := by rw [decide_eq_true_eq]; omega
  have h1 : decide (line < 0) = false := by rw [decide_eq_false_iff_not]; omega
  have h2 : decide (63 < line) = false := by rw [decide_eq_false_iff_not]; omega
  clear hK hn
  cases dirty <;> cases kept <;>
    (repeat (first
      | refine ldM0 hl ?_
      | refine ldM1 hl ?_
      | refine ldM2 hl ?_
      | refine ldM3 hl ?_
      | refine ldMd hl ?_
      | rw [kBin_eql]
      | rw [kBin_neq]
      | rw [kBin_lss]
      | rw [kBin_gtr]
      | rw [kUn_not]
      | refine kSplit_t rfl ?_
      | refine kSplit_f rfl ?_
      | refine kSplit_f h1 ?_
      | refine kSplit_f h2 ?_
      | refine rAsks_spec (fun _ => ?_)
      | refine rAnswers_spec (fun _ => ?_)
      | refine rTells_spec (fun _ => ?_)
      | rw [kFill_nil]
      | exact leaf _ _ (by unfold goodM; rw [ok]; rfl)
      | exact eqL data zeroL _ (leaf _ _ (by unfold goodM; rw [ok]; rfl))))
theorem rg9 (hlr : 0 ≤ line ∧ line < 64) (hK : ∀ n', K (.bool (goodM ⟨9, line, dirty, kept, data⟩)) g n') : bellowsref06_Good AC (.agg (encM ⟨9, line, dirty, kept, data⟩).toArray) g n K := by
  simp only [bellowsref06_Good, kAgg_a]
  intro hn
  have hs := (Sub.refl g).new hn (some (.cells (encM ⟨9, line, dirty, kept, data⟩) .exact))
  have hl := upd_same g n (some (.cells (encM ⟨9, line, dirty, kept, data⟩) .exact))
  generalize upd g n (some (.cells (encM ⟨9, line, dirty, kept, data⟩) .exact)) = g1 at *
  have leaf : ∀ (n' : Nat) (b : Bool), goodM ⟨9, line, dirty, kept, data⟩ = b → aRet K (.bool b) g1 n' := fun n' b h => by
    have k := hK n'
    rw [h] at k
    exact aRet_of hs k
  have ok : decide (1 ≤ (9 : Int) ∧ (9 : Int) ≤ 14 ∧ 0 ≤ line ∧ line < 64) = true := by rw [decide_eq_true_eq]; omega
  have h1 : decide (line < 0) = false := by rw [decide_eq_false_iff_not]; omega
  have h2 : decide (63 < line) = false := by rw [decide_eq_false_iff_not]; omega
  clear hK hn
  cases dirty <;> cases kept <;>
    (repeat (first
      | refine ldM0 hl ?_
      | refine ldM1 hl ?_
      | refine ldM2 hl ?_
      | refine ldM3 hl ?_
      | refine ldMd hl ?_
      | rw [kBin_eql]
      | rw [kBin_neq]
      | rw [kBin_lss]
      | rw [kBin_gtr]
      | rw [kUn_not]
      | refine kSplit_t rfl ?_
      | refine kSplit_f rfl ?_
      | refine kSplit_f h1 ?_
      | refine kSplit_f h2 ?_
      | refine rAsks_spec (fun _ => ?_)
      | refine rAnswers_spec (fun _ => ?_)
      | refine rTells_spec (fun _ => ?_)
      | rw [kFill_nil]
      | exact leaf _ _ (by unfold goodM; rw [ok]; rfl)
      | exact eqL data zeroL _ (leaf _ _ (by unfold goodM; rw [ok]; rfl))))
theorem rg10 (hlr : 0 ≤ line ∧ line < 64) (hK : ∀ n', K (.bool (goodM ⟨10, line, dirty, kept, data⟩)) g n') : bellowsref06_Good AC (.agg (encM ⟨10, line, dirty, kept, data⟩).toArray) g n K := by
  simp only [bellowsref06_Good, kAgg_a]
  intro hn
  have hs := (Sub.refl g).new hn (some (.cells (encM ⟨10, line, dirty, kept, data⟩) .exact))
  have hl := upd_same g n (some (.cells (encM ⟨10, line, dirty, kept, data⟩) .exact))
  generalize upd g n (some (.cells (encM ⟨10, line, dirty, kept, data⟩) .exact)) = g1 at *
  have leaf : ∀ (n' : Nat) (b : Bool), goodM ⟨10, line, dirty, kept, data⟩ = b → aRet K (.bool b) g1 n' := fun n' b h => by
    have k := hK n'
    rw [h] at k
    exact aRet_of hs k
  have ok : decide (1 ≤ (10 : Int) ∧ (10 : Int) ≤ 14 ∧ 0 ≤ line ∧ line < 64) = true := by rw [decide_eq_true_eq]; omega
  have h1 : decide (line < 0) = false := by rw [decide_eq_false_iff_not]; omega
  have h2 : decide (63 < line) = false := by rw [decide_eq_false_iff_not]; omega
  clear hK hn
  cases dirty <;> cases kept <;>
    (repeat (first
      | refine ldM0 hl ?_
      | refine ldM1 hl ?_
      | refine ldM2 hl ?_
      | refine ldM3 hl ?_
      | refine ldMd hl ?_
      | rw [kBin_eql]
      | rw [kBin_neq]
      | rw [kBin_lss]
      | rw [kBin_gtr]
      | rw [kUn_not]
      | refine kSplit_t rfl ?_
      | refine kSplit_f rfl ?_
      | refine kSplit_f h1 ?_
      | refine kSplit_f h2 ?_
      | refine rAsks_spec (fun _ => ?_)
      | refine rAnswers_spec (fun _ => ?_)
      | refine rTells_spec (fun _ => ?_)
      | rw [kFill_nil]
      | exact leaf _ _ (by unfold goodM; rw [ok]; rfl)
      | exact eqL data zeroL _ (leaf _ _ (by unfold goodM; rw [ok]; rfl))))
theorem rg11 (hlr : 0 ≤ line ∧ line < 64) (hK : ∀ n', K (.bool (goodM ⟨11, line, dirty, kept, data⟩)) g n') : bellowsref06_Good AC (.agg (encM ⟨11, line, dirty, kept, data⟩).toArray) g n K := by
  simp only [bellowsref06_Good, kAgg_a]
  intro hn
  have hs := (Sub.refl g).new hn (some (.cells (encM ⟨11, line, dirty, kept, data⟩) .exact))
  have hl := upd_same g n (some (.cells (encM ⟨11, line, dirty, kept, data⟩) .exact))
  generalize upd g n (some (.cells (encM ⟨11, line, dirty, kept, data⟩) .exact)) = g1 at *
  have leaf : ∀ (n' : Nat) (b : Bool), goodM ⟨11, line, dirty, kept, data⟩ = b → aRet K (.bool b) g1 n' := fun n' b h => by
    have k := hK n'
    rw [h] at k
    exact aRet_of hs k
  have ok : decide (1 ≤ (11 : Int) ∧ (11 : Int) ≤ 14 ∧ 0 ≤ line ∧ line < 64) = true := by rw [decide_eq_true_eq]; omega
  have h1 : decide (line < 0) = false := by rw [decide_eq_false_iff_not]; omega
  have h2 : decide (63 < line) = false := by rw [decide_eq_false_iff_not]; omega
  clear hK hn
  cases dirty <;> cases kept <;>
    (repeat (first
      | refine ldM0 hl ?_
      | refine ldM1 hl ?_
      | refine ldM2 hl ?_
      | refine ldM3 hl ?_
      | refine ldMd hl ?_
      | rw [kBin_eql]
      | rw [kBin_neq]
      | rw [kBin_lss]
      | rw [kBin_gtr]
      | rw [kUn_not]
      | refine kSplit_t rfl ?_
      | refine kSplit_f rfl ?_
      | refine kSplit_f h1 ?_
      | refine kSplit_f h2 ?_
      | refine rAsks_spec (fun _ => ?_)
      | refine rAnswers_spec (fun _ => ?_)
      | refine rTells_spec (fun _ => ?_)
      | rw [kFill_nil]
      | exact leaf _ _ (by unfold goodM; rw [ok]; rfl)
      | exact eqL data zeroL _ (leaf _ _ (by unfold goodM; rw [ok]; rfl))))
theorem rg12 (hlr : 0 ≤ line ∧ line < 64) (hK : ∀ n', K (.bool (goodM ⟨12, line, dirty, kept, data⟩)) g n') : bellowsref06_Good AC (.agg (encM ⟨12, line, dirty, kept, data⟩).toArray) g n K := by
  simp only [bellowsref06_Good, kAgg_a]
  intro hn
  have hs := (Sub.refl g).new hn (some (.cells (encM ⟨12, line, dirty, kept, data⟩) .exact))
  have hl := upd_same g n (some (.cells (encM ⟨12, line, dirty, kept, data⟩) .exact))
  generalize upd g n (some (.cells (encM ⟨12, line, dirty, kept, data⟩) .exact)) = g1 at *
  have leaf : ∀ (n' : Nat) (b : Bool), goodM ⟨12, line, dirty, kept, data⟩ = b → aRet K (.bool b) g1 n' := fun n' b h => by
    have k := hK n'
    rw [h] at k
    exact aRet_of hs k
  have ok : decide (1 ≤ (12 : Int) ∧ (12 : Int) ≤ 14 ∧ 0 ≤ line ∧ line < 64) = true := by rw [decide_eq_true_eq]; omega
  have h1 : decide (line < 0) = false := by rw [decide_eq_false_iff_not]; omega
  have h2 : decide (63 < line) = false := by rw [decide_eq_false_iff_not]; omega
  clear hK hn
  cases dirty <;> cases kept <;>
    (repeat (first
      | refine ldM0 hl ?_
      | refine ldM1 hl ?_
      | refine ldM2 hl ?_
      | refine ldM3 hl ?_
      | refine ldMd hl ?_
      | rw [kBin_eql]
      | rw [kBin_neq]
      | rw [kBin_lss]
      | rw [kBin_gtr]
      | rw [kUn_not]
      | refine kSplit_t rfl ?_
      | refine kSplit_f rfl ?_
      | refine kSplit_f h1 ?_
      | refine kSplit_f h2 ?_
      | refine rAsks_spec (fun _ => ?_)
      | refine rAnswers_spec (fun _ => ?_)
      | refine rTells_spec (fun _ => ?_)
      | rw [kFill_nil]
      | exact leaf _ _ (by unfold goodM; rw [ok]; rfl)
      | exact eqL data zeroL _ (leaf _ _ (by unfold goodM; rw [ok]; rfl))))
theorem rg13 (hlr : 0 ≤ line ∧ line < 64) (hK : ∀ n', K (.bool (goodM ⟨13, line, dirty, kept, data⟩)) g n') : bellowsref06_Good AC (.agg (encM ⟨13, line, dirty, kept, data⟩).toArray) g n K := by
  simp only [bellowsref06_Good, kAgg_a]
  intro hn
  have hs := (Sub.refl g).new hn (some (.cells (encM ⟨13, line, dirty, kept, data⟩) .exact))
  have hl := upd_same g n (some (.cells (encM ⟨13, line, dirty, kept, data⟩) .exact))
  generalize upd g n (some (.cells (encM ⟨13, line, dirty, kept, data⟩) .exact)) = g1 at *
  have leaf : ∀ (n' : Nat) (b : Bool), goodM ⟨13, line, dirty, kept, data⟩ = b → aRet K (.bool b) g1 n' := fun n' b h => by
    have k := hK n'
    rw [h] at k
    exact aRet_of hs k
  have ok : decide (1 ≤ (13 : Int) ∧ (13 : Int) ≤ 14 ∧ 0 ≤ line ∧ line < 64) = true := by rw [decide_eq_true_eq]; omega
  have h1 : decide (line < 0) = false := by rw [decide_eq_false_iff_not]; omega
  have h2 : decide (63 < line) = false := by rw [decide_eq_false_iff_not]; omega
  clear hK hn
  cases dirty <;> cases kept <;>
    (repeat (first
      | refine ldM0 hl ?_
      | refine ldM1 hl ?_
      | refine ldM2 hl ?_
      | refine ldM3 hl ?_
      | refine ldMd hl ?_
      | rw [kBin_eql]
      | rw [kBin_neq]
      | rw [kBin_lss]
      | rw [kBin_gtr]
      | rw [kUn_not]
      | refine kSplit_t rfl ?_
      | refine kSplit_f rfl ?_
      | refine kSplit_f h1 ?_
      | refine kSplit_f h2 ?_
      | refine rAsks_spec (fun _ => ?_)
      | refine rAnswers_spec (fun _ => ?_)
      | refine rTells_spec (fun _ => ?_)
      | rw [kFill_nil]
      | exact leaf _ _ (by unfold goodM; rw [ok]; rfl)
      | exact eqL data zeroL _ (leaf _ _ (by unfold goodM; rw [ok]; rfl))))
theorem rg14 (hlr : 0 ≤ line ∧ line < 64) (hK : ∀ n', K (.bool (goodM ⟨14, line, dirty, kept, data⟩)) g n') : bellowsref06_Good AC (.agg (encM ⟨14, line, dirty, kept, data⟩).toArray) g n K := by
  simp only [bellowsref06_Good, kAgg_a]
  intro hn
  have hs := (Sub.refl g).new hn (some (.cells (encM ⟨14, line, dirty, kept, data⟩) .exact))
  have hl := upd_same g n (some (.cells (encM ⟨14, line, dirty, kept, data⟩) .exact))
  generalize upd g n (some (.cells (encM ⟨14, line, dirty, kept, data⟩) .exact)) = g1 at *
  have leaf : ∀ (n' : Nat) (b : Bool), goodM ⟨14, line, dirty, kept, data⟩ = b → aRet K (.bool b) g1 n' := fun n' b h => by
    have k := hK n'
    rw [h] at k
    exact aRet_of hs k
  have ok : decide (1 ≤ (14 : Int) ∧ (14 : Int) ≤ 14 ∧ 0 ≤ line ∧ line < 64) = true := by rw [decide_eq_true_eq]; omega
  have h1 : decide (line < 0) = false := by rw [decide_eq_false_iff_not]; omega
  have h2 : decide (63 < line) = false := by rw [decide_eq_false_iff_not]; omega
  clear hK hn
  cases dirty <;> cases kept <;>
    (repeat (first
      | refine ldM0 hl ?_
      | refine ldM1 hl ?_
      | refine ldM2 hl ?_
      | refine ldM3 hl ?_
      | refine ldMd hl ?_
      | rw [kBin_eql]
      | rw [kBin_neq]
      | rw [kBin_lss]
      | rw [kBin_gtr]
      | rw [kUn_not]
      | refine kSplit_t rfl ?_
      | refine kSplit_f rfl ?_
      | refine kSplit_f h1 ?_
      | refine kSplit_f h2 ?_
      | refine rAsks_spec (fun _ => ?_)
      | refine rAnswers_spec (fun _ => ?_)
      | refine rTells_spec (fun _ => ?_)
      | rw [kFill_nil]
      | exact leaf _ _ (by unfold goodM; rw [ok]; rfl)
      | exact eqL data zeroL _ (leaf _ _ (by unfold goodM; rw [ok]; rfl))))
theorem rb1 (hlr : ¬ (0 ≤ line ∧ line < 64)) (hK : ∀ n', K (.bool (goodM ⟨1, line, dirty, kept, data⟩)) g n') : bellowsref06_Good AC (.agg (encM ⟨1, line, dirty, kept, data⟩).toArray) g n K := by
  simp only [bellowsref06_Good, kAgg_a]
  intro hn
  have hs := (Sub.refl g).new hn (some (.cells (encM ⟨1, line, dirty, kept, data⟩) .exact))
  have hl := upd_same g n (some (.cells (encM ⟨1, line, dirty, kept, data⟩) .exact))
  generalize upd g n (some (.cells (encM ⟨1, line, dirty, kept, data⟩) .exact)) = g1 at *
  have leaf : ∀ (n' : Nat) (b : Bool), goodM ⟨1, line, dirty, kept, data⟩ = b → aRet K (.bool b) g1 n' := fun n' b h => by
    have k := hK n'
    rw [h] at k
    exact aRet_of hs k
  have lf : ∀ n', aRet K (.bool false) g1 n' := fun n' => leaf n' _ (by unfold goodM; rw [decide_eq_false (by show ¬ (1 ≤ (1 : Int) ∧ (1 : Int) ≤ 14 ∧ 0 ≤ line ∧ line < 64); omega)]; rfl)
  clear hK hn leaf
  rcases Int.lt_or_le line 0 with h0 | h0
  · have h1 : decide (line < 0) = true := decide_eq_true h0
    (repeat (first
      | refine ldM0 hl ?_
      | refine ldM1 hl ?_
      | rw [kBin_lss]
      | rw [kUn_not]
      | refine kSplit_t h1 ?_
      | refine kSplit_t rfl ?_
      | refine kSplit_f rfl ?_
      | refine rAsks_spec (fun _ => ?_)
      | refine rAnswers_spec (fun _ => ?_)
      | refine rTells_spec (fun _ => ?_)
      | exact lf _))
  · have h1 : decide (line < 0) = false := by rw [decide_eq_false_iff_not]; omega
    have h2 : decide (63 < line) = true := by rw [decide_eq_true_eq]; omega
    (repeat (first
      | refine ldM0 hl ?_
      | refine ldM1 hl ?_
      | rw [kBin_lss]
      | rw [kBin_gtr]
      | rw [kUn_not]
      | refine kSplit_f h1 ?_
      | refine kSplit_t h2 ?_
      | refine kSplit_t rfl ?_
      | refine kSplit_f rfl ?_
      | refine rAsks_spec (fun _ => ?_)
      | refine rAnswers_spec (fun _ => ?_)
      | refine rTells_spec (fun _ => ?_)
      | exact lf _))
theorem rb2 (hlr : ¬ (0 ≤ line ∧ line < 64)) (hK : ∀ n', K (.bool (goodM ⟨2, line, dirty, kept, data⟩)) g n') : bellowsref06_Good AC (.agg (encM ⟨2, line, dirty, kept, data⟩).toArray) g n K := by
  simp only [bellowsref06_Good, kAgg_a]
  intro hn
  have hs := (Sub.refl g).new hn (some (.cells (encM ⟨2, line, dirty, kept, data⟩) .exact))
  have hl := upd_same g n (some (.cells (encM ⟨2, line, dirty, kept, data⟩) .exact))
  generalize upd g n (some (.cells (encM ⟨2, line, dirty, kept, data⟩) .exact)) = g1 at *
  have leaf : ∀ (n' : Nat) (b : Bool), goodM ⟨2, line, dirty, kept, data⟩ = b → aRet K (.bool b) g1 n' := fun n' b h => by
    have k := hK n'
    rw [h] at k
    exact aRet_of hs k
  have lf : ∀ n', aRet K (.bool false) g1 n' := fun n' => leaf n' _ (by unfold goodM; rw [decide_eq_false (by show ¬ (1 ≤ (2 : Int) ∧ (2 : Int) ≤ 14 ∧ 0 ≤ line ∧ line < 64); omega)]; rfl)
  clear hK hn leaf
  rcases Int.lt_or_le line 0 with h0 | h0
  · have h1 : decide (line < 0) = true := decide_eq_true h0
    (repeat (first
      | refine ldM0 hl ?_
      | refine ldM1 hl ?_
      | rw [kBin_lss]
      | rw [kUn_not]
      | refine kSplit_t h1 ?_
      | refine kSplit_t rfl ?_
      | refine kSplit_f rfl ?_
      | refine rAsks_spec (fun _ => ?_)
      | refine rAnswers_spec (fun _ => ?_)
      | refine rTells_spec (fun _ => ?_)
      | exact lf _))
  · have h1 : decide (line < 0) = false := by rw [decide_eq_false_iff_not]; omega
    have h2 : decide (63 < line) = true := by rw [decide_eq_true_eq]; omega
    (repeat (first
      | refine ldM0 hl ?_
      | refine ldM1 hl ?_
      | rw [kBin_lss]
      | rw [kBin_gtr]
      | rw [kUn_not]
      | refine kSplit_f h1 ?_
      | refine kSplit_t h2 ?_
      | refine kSplit_t rfl ?_
      | refine kSplit_f rfl ?_
      | refine rAsks_spec (fun _ => ?_)
      | refine rAnswers_spec (fun _ => ?_)
      | refine rTells_spec (fun _ => ?_)
      | exact lf _))
theorem rb3 (hlr : ¬ (0 ≤ line ∧ line < 64)) (hK : ∀ n', K (.bool (goodM ⟨3, line, dirty, kept, data⟩)) g n') : bellowsref06_Good AC (.agg (encM ⟨3, line, dirty, kept, data⟩).toArray) g n K := by
  simp only [bellowsref06_Good, kAgg_a]
  intro hn
  have hs := (Sub.refl g).new hn (some (.cells (encM ⟨3, line, dirty, kept, data⟩) .exact))
  have hl := upd_same g n (some (.cells (encM ⟨3, line, dirty, kept, data⟩) .exact))
  generalize upd g n (some (.cells (encM ⟨3, line, dirty, kept, data⟩) .exact)) = g1 at *
  have leaf : ∀ (n' : Nat) (b : Bool), goodM ⟨3, line, dirty, kept, data⟩ = b → aRet K (.bool b) g1 n' := fun n' b h => by
    have k := hK n'
    rw [h] at k
    exact aRet_of hs k
  have lf : ∀ n', aRet K (.bool false) g1 n' := fun n' => leaf n' _ (by unfold goodM; rw [decide_eq_false (by show ¬ (1 ≤ (3 : Int) ∧ (3 : Int) ≤ 14 ∧ 0 ≤ line ∧ line < 64); omega)]; rfl)
  clear hK hn leaf
  rcases Int.lt_or_le line 0 with h0 | h0
  · have h1 : decide (line < 0) = true := decide_eq_true h0
    (repeat (first
      | refine ldM0 hl ?_
      | refine ldM1 hl ?_
      | rw [kBin_lss]
      | rw [kUn_not]
      | refine kSplit_t h1 ?_
      | refine kSplit_t rfl ?_
      | refine kSplit_f rfl ?_
      | refine rAsks_spec (fun _ => ?_)
      | refine rAnswers_spec (fun _ => ?_)
      | refine rTells_spec (fun _ => ?_)
      | exact lf _))
  · have h1 : decide (line < 0) = false := by rw [decide_eq_false_iff_not]; omega
    have h2 : decide (63 < line) = true := by rw [decide_eq_true_eq]; omega
    (repeat (first
      | refine ldM0 hl ?_
      | refine ldM1 hl ?_
      | rw [kBin_lss]
      | rw [kBin_gtr]
      | rw [kUn_not]
      | refine kSplit_f h1 ?_
      | refine kSplit_t h2 ?_
      | refine kSplit_t rfl ?_
      | refine kSplit_f rfl ?_
      | refine rAsks_spec (fun _ => ?_)
      | refine rAnswers_spec (fun _ => ?_)
      | refine rTells_spec (fun _ => ?_)
      | exact lf _))
theorem rb4 (hlr : ¬ (0 ≤ line ∧ line < 64)) (hK : ∀ n', K (.bool (goodM ⟨4, line, dirty, kept, data⟩)) g n') : bellowsref06_Good AC (.agg (encM ⟨4, line, dirty, kept, data⟩).toArray) g n K := by
  simp only [bellowsref06_Good, kAgg_a]
  intro hn
  have hs := (Sub.refl g).new hn (some (.cells (encM ⟨4, line, dirty, kept, data⟩) .exact))
  have hl := upd_same g n (some (.cells (encM ⟨4, line, dirty, kept, data⟩) .exact))
  generalize upd g n (some (.cells (encM ⟨4, line, dirty, kept, data⟩) .exact)) = g1 at *
  have leaf : ∀ (n' : Nat) (b : Bool), goodM ⟨4, line, dirty, kept, data⟩ = b → aRet K (.bool b) g1 n' := fun n' b h => by
    have k := hK n'
    rw [h] at k
    exact aRet_of hs k
  have lf : ∀ n', aRet K (.bool false) g1 n' := fun n' => leaf n' _ (by unfold goodM; rw [decide_eq_false (by show ¬ (1 ≤ (4 : Int) ∧ (4 : Int) ≤ 14 ∧ 0 ≤ line ∧ line < 64); omega)]; rfl)
  clear hK hn leaf
  rcases Int.lt_or_le line 0 with h0 | h0
  · have h1 : decide (line < 0) = true := decide_eq_true h0
    (repeat (first
      | refine ldM0 hl ?_
      | refine ldM1 hl ?_
      | rw [kBin_lss]
      | rw [kUn_not]
      | refine kSplit_t h1 ?_
      | refine kSplit_t rfl ?_
      | refine kSplit_f rfl ?_
      | refine rAsks_spec (fun _ => ?_)
      | refine rAnswers_spec (fun _ => ?_)
      | refine rTells_spec (fun _ => ?_)
      | exact lf _))
  · have h1 : decide (line < 0) = false := by rw [decide_eq_false_iff_not]; omega
    have h2 : decide (63 < line) = true := by rw [decide_eq_true_eq]; omega
    (repeat (first
      | refine ldM0 hl ?_
      | refine ldM1 hl ?_
      | rw [kBin_lss]
      | rw [kBin_gtr]
      | rw [kUn_not]
      | refine kSplit_f h1 ?_
      | refine kSplit_t h2 ?_
      | refine kSplit_t rfl ?_
      | refine kSplit_f rfl ?_
      | refine rAsks_spec (fun _ => ?_)
      | refine rAnswers_spec (fun _ => ?_)
      | refine rTells_spec (fun _ => ?_)
      | exact lf _))
theorem rb5 (hlr : ¬ (0 ≤ line ∧ line < 64)) (hK : ∀ n', K (.bool (goodM ⟨5, line, dirty, kept, data⟩)) g n') : bellowsref06_Good AC (.agg (encM ⟨5, line, dirty, kept, data⟩).toArray) g n K := by
  simp only [bellowsref06_Good, kAgg_a]
  intro hn
  have hs := (Sub.refl g).new hn (some (.cells (encM ⟨5, line, dirty, kept, data⟩) .exact))
  have hl := upd_same g n (some (.cells (encM ⟨5, line, dirty, kept, data⟩) .exact))
  generalize upd g n (some (.cells (encM ⟨5, line, dirty, kept, data⟩) .exact)) = g1 at *
  have leaf : ∀ (n' : Nat) (b : Bool), goodM ⟨5, line, dirty, kept, data⟩ = b → aRet K (.bool b) g1 n' := fun n' b h => by
    have k := hK n'
    rw [h] at k
    exact aRet_of hs k
  have lf : ∀ n', aRet K (.bool false) g1 n' := fun n' => leaf n' _ (by unfold goodM; rw [decide_eq_false (by show ¬ (1 ≤ (5 : Int) ∧ (5 : Int) ≤ 14 ∧ 0 ≤ line ∧ line < 64); omega)]; rfl)
  clear hK hn leaf
  rcases Int.lt_or_le line 0 with h0 | h0
  · have h1 : decide (line < 0) = true := decide_eq_true h0
    (repeat (first
      | refine ldM0 hl ?_
      | refine ldM1 hl ?_
      | rw [kBin_lss]
      | rw [kUn_not]
      | refine kSplit_t h1 ?_
      | refine kSplit_t rfl ?_
      | refine kSplit_f rfl ?_
      | refine rAsks_spec (fun _ => ?_)
      | refine rAnswers_spec (fun _ => ?_)
      | refine rTells_spec (fun _ => ?_)
      | exact lf _))
  · have h1 : decide (line < 0) = false := by rw [decide_eq_false_iff_not]; omega
    have h2 : decide (63 < line) = true := by rw [decide_eq_true_eq]; omega
    (repeat (first
      | refine ldM0 hl ?_
      | refine ldM1 hl ?_
      | rw [kBin_lss]
      | rw [kBin_gtr]
      | rw [kUn_not]
      | refine kSplit_f h1 ?_
      | refine kSplit_t h2 ?_
      | refine kSplit_t rfl ?_
      | refine kSplit_f rfl ?_
      | refine rAsks_spec (fun _ => ?_)
      | refine rAnswers_spec (fun _ => ?_)
      | refine rTells_spec (fun _ => ?_)
      | exact lf _))
theorem rb6 (hlr : ¬ (0 ≤ line ∧ line < 64)) (hK : ∀ n', K (.bool (goodM ⟨6, line, dirty, kept, data⟩)) g n') : bellowsref06_Good AC (.agg (encM ⟨6, line, dirty, kept, data⟩).toArray) g n K := by
  simp only [bellowsref06_Good, kAgg_a]
  intro hn
  have hs := (Sub.refl g).new hn (some (.cells (encM ⟨6, line, dirty, kept, data⟩) .exact))
  have hl := upd_same g n (some (.cells (encM ⟨6, line, dirty, kept, data⟩) .exact))
  generalize upd g n (some (.cells (encM ⟨6, line, dirty, kept, data⟩) .exact)) = g1 at *
  have leaf : ∀ (n' : Nat) (b : Bool), goodM ⟨6, line, dirty, kept, data⟩ = b → aRet K (.bool b) g1 n' := fun n' b h => by
    have k := hK n'
    rw [h] at k
    exact aRet_of hs k
  have lf : ∀ n', aRet K (.bool false) g1 n' := fun n' => leaf n' _ (by unfold goodM; rw [decide_eq_false (by show ¬ (1 ≤ (6 : Int) ∧ (6 : Int) ≤ 14 ∧ 0 ≤ line ∧ line < 64); omega)]; rfl)
  clear hK hn leaf
  rcases Int.lt_or_le line 0 with h0 | h0
  · have h1 : decide (line < 0) = true := decide_eq_true h0
    (repeat (first
      | refine ldM0 hl ?_
      | refine ldM1 hl ?_
      | rw [kBin_lss]
      | rw [kUn_not]
      | refine kSplit_t h1 ?_
      | refine kSplit_t rfl ?_
      | refine kSplit_f rfl ?_
      | refine rAsks_spec (fun _ => ?_)
      | refine rAnswers_spec (fun _ => ?_)
      | refine rTells_spec (fun _ => ?_)
      | exact lf _))
  · have h1 : decide (line < 0) = false := by rw [decide_eq_false_iff_not]; omega
    have h2 : decide (63 < line) = true := by rw [decide_eq_true_eq]; omega
    (repeat (first
      | refine ldM0 hl ?_
      | refine ldM1 hl ?_
      | rw [kBin_lss]
      | rw [kBin_gtr]
      | rw [kUn_not]
      | refine kSplit_f h1 ?_
      | refine kSplit_t h2 ?_
      | refine kSplit_t rfl ?_
      | refine kSplit_f rfl ?_
      | refine rAsks_spec (fun _ => ?_)
      | refine rAnswers_spec (fun _ => ?_)
      | refine rTells_spec (fun _ => ?_)
      | exact lf _))
theorem rb7 (hlr : ¬ (0 ≤ line ∧ line < 64)) (hK : ∀ n', K (.bool (goodM ⟨7, line, dirty, kept, data⟩)) g n') : bellowsref06_Good AC (.agg (encM ⟨7, line, dirty, kept, data⟩).toArray) g n K := by
  simp only [bellowsref06_Good, kAgg_a]
  intro hn
  have hs := (Sub.refl g).new hn (some (.cells (encM ⟨7, line, dirty, kept, data⟩) .exact))
  have hl := upd_same g n (some (.cells (encM ⟨7, line, dirty, kept, data⟩) .exact))
  generalize upd g n (some (.cells (encM ⟨7, line, dirty, kept, data⟩) .exact)) = g1 at *
  have leaf : ∀ (n' : Nat) (b : Bool), goodM ⟨7, line, dirty, kept, data⟩ = b → aRet K (.bool b) g1 n' := fun n' b h => by
    have k := hK n'
    rw [h] at k
    exact aRet_of hs k
  have lf : ∀ n', aRet K (.bool false) g1 n' := fun n' => leaf n' _ (by unfold goodM; rw [decide_eq_false (by show ¬ (1 ≤ (7 : Int) ∧ (7 : Int) ≤ 14 ∧ 0 ≤ line ∧ line < 64); omega)]; rfl)
  clear hK hn leaf
  rcases Int.lt_or_le line 0 with h0 | h0
  · have h1 : decide (line < 0) = true := decide_eq_true h0
    (repeat (first
      | refine ldM0 hl ?_
      | refine ldM1 hl ?_
      | rw [kBin_lss]
      | rw [kUn_not]
      | refine kSplit_t h1 ?_
      | refine kSplit_t rfl ?_
      | refine kSplit_f rfl ?_
      | refine rAsks_spec (fun _ => ?_)
      | refine rAnswers_spec (fun _ => ?_)
      | refine rTells_spec (fun _ => ?_)
      | exact lf _))
  · have h1 : decide (line < 0) = false := by rw [decide_eq_false_iff_not]; omega
    have h2 : decide (63 < line) = true := by rw [decide_eq_true_eq]; omega
    (repeat (first
      | refine ldM0 hl ?_
      | refine ldM1 hl ?_
      | rw [kBin_lss]
      | rw [kBin_gtr]
      | rw [kUn_not]
      | refine kSplit_f h1 ?_
      | refine kSplit_t h2 ?_
      | refine kSplit_t rfl ?_
      | refine kSplit_f rfl ?_
      | refine rAsks_spec (fun _ => ?_)
      | refine rAnswers_spec (fun _ => ?_)
      | refine rTells_spec (fun _ => ?_)
      | exact lf _))
theorem rb8 (hlr : ¬ (0 ≤ line ∧ line < 64)) (hK : ∀ n', K (.bool (goodM ⟨8, line, dirty, kept, data⟩)) g n') : bellowsref06_Good AC (.agg (encM ⟨8, line, dirty, kept, data⟩).toArray) g n K := by
  simp only [bellowsref06_Good, kAgg_a]
  intro hn
  have hs := (Sub.refl g).new hn (some (.cells (encM ⟨8, line, dirty, kept, data⟩) .exact))
  have hl := upd_same g n (some (.cells (encM ⟨8, line, dirty, kept, data⟩) .exact))
  generalize upd g n (some (.cells (encM ⟨8, line, dirty, kept, data⟩) .exact)) = g1 at *
  have leaf : ∀ (n' : Nat) (b : Bool), goodM ⟨8, line, dirty, kept, data⟩ = b → aRet K (.bool b) g1 n' := fun n' b h => by
    have k := hK n'
    rw [h] at k
    exact aRet_of hs k
  have lf : ∀ n', aRet K (.bool false) g1 n' := fun n' => leaf n' _ (by unfold goodM; rw [decide_eq_false (by show ¬ (1 ≤ (8 : Int) ∧ (8 : Int) ≤ 14 ∧ 0 ≤ line ∧ line < 64); omega)]; rfl)
  clear hK hn leaf
  rcases Int.lt_or_le line 0 with h0 | h0
  · have h1 : decide (line < 0) = true := decide_eq_true h0
    (repeat (first
      | refine ldM0 hl ?_
      | refine ldM1 hl ?_
      | rw [kBin_lss]
      | rw [kUn_not]
      | refine kSplit_t h1 ?_
      | refine kSplit_t rfl ?_
      | refine kSplit_f rfl ?_
      | refine rAsks_spec (fun _ => ?_)
      | refine rAnswers_spec (fun _ => ?_)
      | refine rTells_spec (fun _ => ?_)
      | exact lf _))
  · have h1 : decide (line < 0) = false := by rw [decide_eq_false_iff_not]; omega
    have h2 : decide (63 < line) = true := by rw [decide_eq_true_eq]; omega
    (repeat (first
      | refine ldM0 hl ?_
      | refine ldM1 hl ?_
      | rw [kBin_lss]
      | rw [kBin_gtr]
      | rw [kUn_not]
      | refine kSplit_f h1 ?_
      | refine kSplit_t h2 ?_
      | refine kSplit_t rfl ?_
      | refine kSplit_f rfl ?_
      | refine rAsks_spec (fun _ => ?_)
      | refine rAnswers_spec (fun _ => ?_)
      | refine rTells_spec (fun _ => ?_)
      | exact lf _))
theorem rb9 (hlr : ¬ (0 ≤ line ∧ line < 64)) (hK : ∀ n', K (.bool (goodM ⟨9, line, dirty, kept, data⟩)) g n') : bellowsref06_Good AC (.agg (encM ⟨9, line, dirty, kept, data⟩).toArray) g n K := by
  simp only [bellowsref06_Good, kAgg_a]
  intro hn
  have hs := (Sub.refl g).new hn (some (.cells (encM ⟨9, line, dirty, kept, data⟩) .exact))
  have hl := upd_same g n (some (.cells (encM ⟨9, line, dirty, kept, data⟩) .exact))
  generalize upd g n (some (.cells (encM ⟨9, line, dirty, kept, data⟩) .exact)) = g1 at *
  have leaf : ∀ (n' : Nat) (b : Bool), goodM ⟨9, line, dirty, kept, data⟩ = b → aRet K (.bool b) g1 n' := fun n' b h => by
    have k := hK n'
    rw [h] at k
    exact aRet_of hs k
  have lf : ∀ n', aRet K (.bool false) g1 n' := fun n' => leaf n' _ (by unfold goodM; rw [decide_eq_false (by show ¬ (1 ≤ (9 : Int) ∧ (9 : Int) ≤ 14 ∧ 0 ≤ line ∧ line < 64); omega)]; rfl)
  clear hK hn leaf
  rcases Int.lt_or_le line 0 with h0 | h0
  · have h1 : decide (line < 0) = true := decide_eq_true h0
    (repeat (first
      | refine ldM0 hl ?_
      | refine ldM1 hl ?_
      | rw [kBin_lss]
      | rw [kUn_not]
      | refine kSplit_t h1 ?_
      | refine kSplit_t rfl ?_
      | refine kSplit_f rfl ?_
      | refine rAsks_spec (fun _ => ?_)
      | refine rAnswers_spec (fun _ => ?_)
      | refine rTells_spec (fun _ => ?_)
      | exact lf _))
  · have h1 : decide (line < 0) = false := by rw [decide_eq_false_iff_not]; omega
    have h2 : decide (63 < line) = true := by rw [decide_eq_true_eq]; omega
    (repeat (first
      | refine ldM0 hl ?_
      | refine ldM1 hl ?_
      | rw [kBin_lss]
      | rw [kBin_gtr]
      | rw [kUn_not]
      | refine kSplit_f h1 ?_
      | refine kSplit_t h2 ?_
      | refine kSplit_t rfl ?_
      | refine kSplit_f rfl ?_
      | refine rAsks_spec (fun _ => ?_)
      | refine rAnswers_spec (fun _ => ?_)
      | refine rTells_spec (fun _ => ?_)
      | exact lf _))
theorem rb10 (hlr : ¬ (0 ≤ line ∧ line < 64)) (hK : ∀ n', K (.bool (goodM ⟨10, line, dirty, kept, data⟩)) g n') : bellowsref06_Good AC (.agg (encM ⟨10, line, dirty, kept, data⟩).toArray) g n K := by
  simp only [bellowsref06_Good, kAgg_a]
  intro hn
  have hs := (Sub.refl g).new hn (some (.cells (encM ⟨10, line, dirty, kept, data⟩) .exact))
  have hl := upd_same g n (some (.cells (encM ⟨10, line, dirty, kept, data⟩) .exact))
  generalize upd g n (some (.cells (encM ⟨10, line, dirty, kept, data⟩) .exact)) = g1 at *
  have leaf : ∀ (n' : Nat) (b : Bool), goodM ⟨10, line, dirty, kept, data⟩ = b → aRet K (.bool b) g1 n' := fun n' b h => by
    have k := hK n'
    rw [h] at k
    exact aRet_of hs k
  have lf : ∀ n', aRet K (.bool false) g1 n' := fun n' => leaf n' _ (by unfold goodM; rw [decide_eq_false (by show ¬ (1 ≤ (10 : Int) ∧ (10 : Int) ≤ 14 ∧ 0 ≤ line ∧ line < 64); omega)]; rfl)
  clear hK hn leaf
  rcases Int.lt_or_le line 0 with h0 | h0
  · have h1 : decide (line < 0) = true := decide_eq_true h0
    (repeat (first
      | refine ldM0 hl ?_
      | refine ldM1 hl ?_
      | rw [kBin_lss]
      | rw [kUn_not]
      | refine kSplit_t h1 ?_
      | refine kSplit_t rfl ?_
      | refine kSplit_f rfl ?_
      | refine rAsks_spec (fun _ => ?_)
      | refine rAnswers_spec (fun _ => ?_)
      | refine rTells_spec (fun _ => ?_)
      | exact lf _))
  · have h1 : decide (line < 0) = false := by rw [decide_eq_false_iff_not]; omega
    have h2 : decide (63 < line) = true := by rw [decide_eq_true_eq]; omega
    (repeat (first
      | refine ldM0 hl ?_
      | refine ldM1 hl ?_
      | rw [kBin_lss]
      | rw [kBin_gtr]
      | rw [kUn_not]
      | refine kSplit_f h1 ?_
      | refine kSplit_t h2 ?_
      | refine kSplit_t rfl ?_
      | refine kSplit_f rfl ?_
      | refine rAsks_spec (fun _ => ?_)
      | refine rAnswers_spec (fun _ => ?_)
      | refine rTells_spec (fun _ => ?_)
      | exact lf _))
theorem rb11 (hlr : ¬ (0 ≤ line ∧ line < 64)) (hK : ∀ n', K (.bool (goodM ⟨11, line, dirty, kept, data⟩)) g n') : bellowsref06_Good AC (.agg (encM ⟨11, line, dirty, kept, data⟩).toArray) g n K := by
  simp only [bellowsref06_Good, kAgg_a]
  intro hn
  have hs := (Sub.refl g).new hn (some (.cells (encM ⟨11, line, dirty, kept, data⟩) .exact))
  have hl := upd_same g n (some (.cells (encM ⟨11, line, dirty, kept, data⟩) .exact))
  generalize upd g n (some (.cells (encM ⟨11, line, dirty, kept, data⟩) .exact)) = g1 at *
  have leaf : ∀ (n' : Nat) (b : Bool), goodM ⟨11, line, dirty, kept, data⟩ = b → aRet K (.bool b) g1 n' := fun n' b h => by
    have k := hK n'
    rw [h] at k
    exact aRet_of hs k
  have lf : ∀ n', aRet K (.bool false) g1 n' := fun n' => leaf n' _ (by unfold goodM; rw [decide_eq_false (by show ¬ (1 ≤ (11 : Int) ∧ (11 : Int) ≤ 14 ∧ 0 ≤ line ∧ line < 64); omega)]; rfl)
  clear hK hn leaf
  rcases Int.lt_or_le line 0 with h0 | h0
  · have h1 : decide (line < 0) = true := decide_eq_true h0
    (repeat (first
      | refine ldM0 hl ?_
      | refine ldM1 hl ?_
      | rw [kBin_lss]
      | rw [kUn_not]
      | refine kSplit_t h1 ?_
      | refine kSplit_t rfl ?_
      | refine kSplit_f rfl ?_
      | refine rAsks_spec (fun _ => ?_)
      | refine rAnswers_spec (fun _ => ?_)
      | refine rTells_spec (fun _ => ?_)
      | exact lf _))
  · have h1 : decide (line < 0) = false := by rw [decide_eq_false_iff_not]; omega
    have h2 : decide (63 < line) = true := by rw [decide_eq_true_eq]; omega
    (repeat (first
      | refine ldM0 hl ?_
      | refine ldM1 hl ?_
      | rw [kBin_lss]
      | rw [kBin_gtr]
      | rw [kUn_not]
      | refine kSplit_f h1 ?_
      | refine kSplit_t h2 ?_
      | refine kSplit_t rfl ?_
      | refine kSplit_f rfl ?_
      | refine rAsks_spec (fun _ => ?_)
      | refine rAnswers_spec (fun _ => ?_)
      | refine rTells_spec (fun _ => ?_)
      | exact lf _))
theorem rb12 (hlr : ¬ (0 ≤ line ∧ line < 64)) (hK : ∀ n', K (.bool (goodM ⟨12, line, dirty, kept, data⟩)) g n') : bellowsref06_Good AC (.agg (encM ⟨12, line, dirty, kept, data⟩).toArray) g n K := by
  simp only [bellowsref06_Good, kAgg_a]
  intro hn
  have hs := (Sub.refl g).new hn (some (.cells (encM ⟨12, line, dirty, kept, data⟩) .exact))
  have hl := upd_same g n (some (.cells (encM ⟨12, line, dirty, kept, data⟩) .exact))
  generalize upd g n (some (.cells (encM ⟨12, line, dirty, kept, data⟩) .exact)) = g1 at *
  have leaf : ∀ (n' : Nat) (b : Bool), goodM ⟨12, line, dirty, kept, data⟩ = b → aRet K (.bool b) g1 n' := fun n' b h => by
    have k := hK n'
    rw [h] at k
    exact aRet_of hs k
  have lf : ∀ n', aRet K (.bool false) g1 n' := fun n' => leaf n' _ (by unfold goodM; rw [decide_eq_false (by show ¬ (1 ≤ (12 : Int) ∧ (12 : Int) ≤ 14 ∧ 0 ≤ line ∧ line < 64); omega)]; rfl)
  clear hK hn leaf
  rcases Int.lt_or_le line 0 with h0 | h0
  · have h1 : decide (line < 0) = true := decide_eq_true h0
    (repeat (first
      | refine ldM0 hl ?_
      | refine ldM1 hl ?_
      | rw [kBin_lss]
      | rw [kUn_not]
      | refine kSplit_t h1 ?_
      | refine kSplit_t rfl ?_
      | refine kSplit_f rfl ?_
      | refine rAsks_spec (fun _ => ?_)
      | refine rAnswers_spec (fun _ => ?_)
      | refine rTells_spec (fun _ => ?_)
      | exact lf _))
  · have h1 : decide (line < 0) = false := by rw [decide_eq_false_iff_not]; omega
    have h2 : decide (63 < line) = true := by rw [decide_eq_true_eq]; omega
    (repeat (first
      | refine ldM0 hl ?_
      | refine ldM1 hl ?_
      | rw [kBin_lss]
      | rw [kBin_gtr]
      | rw [kUn_not]
      | refine kSplit_f h1 ?_
      | refine kSplit_t h2 ?_
      | refine kSplit_t rfl ?_
      | refine kSplit_f rfl ?_
      | refine rAsks_spec (fun _ => ?_)
      | refine rAnswers_spec (fun _ => ?_)
      | refine rTells_spec (fun _ => ?_)
      | exact lf _))
theorem rb13 (hlr : ¬ (0 ≤ line ∧ line < 64)) (hK : ∀ n', K (.bool (goodM ⟨13, line, dirty, kept, data⟩)) g n') : bellowsref06_Good AC (.agg (encM ⟨13, line, dirty, kept, data⟩).toArray) g n K := by
  simp only [bellowsref06_Good, kAgg_a]
  intro hn
  have hs := (Sub.refl g).new hn (some (.cells (encM ⟨13, line, dirty, kept, data⟩) .exact))
  have hl := upd_same g n (some (.cells (encM ⟨13, line, dirty, kept, data⟩) .exact))
  generalize upd g n (some (.cells (encM ⟨13, line, dirty, kept, data⟩) .exact)) = g1 at *
  have leaf : ∀ (n' : Nat) (b : Bool), goodM ⟨13, line, dirty, kept, data⟩ = b → aRet K (.bool b) g1 n' := fun n' b h => by
    have k := hK n'
    rw [h] at k
    exact aRet_of hs k
  have lf : ∀ n', aRet K (.bool false) g1 n' := fun n' => leaf n' _ (by unfold goodM; rw [decide_eq_false (by show ¬ (1 ≤ (13 : Int) ∧ (13 : Int) ≤ 14 ∧ 0 ≤ line ∧ line < 64); omega)]; rfl)
  clear hK hn leaf
  rcases Int.lt_or_le line 0 with h0 | h0
  · have h1 : decide (line < 0) = true := decide_eq_true h0
    (repeat (first
      | refine ldM0 hl ?_
      | refine ldM1 hl ?_
      | rw [kBin_lss]
      | rw [kUn_not]
      | refine kSplit_t h1 ?_
      | refine kSplit_t rfl ?_
      | refine kSplit_f rfl ?_
      | refine rAsks_spec (fun _ => ?_)
      | refine rAnswers_spec (fun _ => ?_)
      | refine rTells_spec (fun _ => ?_)
      | exact lf _))
  · have h1 : decide (line < 0) = false := by rw [decide_eq_false_iff_not]; omega
    have h2 : decide (63 < line) = true := by rw [decide_eq_true_eq]; omega
    (repeat (first
      | refine ldM0 hl ?_
      | refine ldM1 hl ?_
      | rw [kBin_lss]
      | rw [kBin_gtr]
      | rw [kUn_not]
      | refine kSplit_f h1 ?_
      | refine kSplit_t h2 ?_
      | refine kSplit_t rfl ?_
      | refine kSplit_f rfl ?_
      | refine rAsks_spec (fun _ => ?_)
      | refine rAnswers_spec (fun _ => ?_)
      | refine rTells_spec (fun _ => ?_)
      | exact lf _))
theorem rb14 (hlr : ¬ (0 ≤ line ∧ line < 64)) (hK : ∀ n', K (.bool (goodM ⟨14, line, dirty, kept, data⟩)) g n') : bellowsref06_Good AC (.agg (encM ⟨14, line, dirty, kept, data⟩).toArray) g n K := by
  simp only [bellowsref06_Good, kAgg_a]
  intro hn
  have hs := (Sub.refl g).new hn (some (.cells (encM ⟨14, line, dirty, kept, data⟩) .exact))
  have hl := upd_same g n (some (.cells (encM ⟨14, line, dirty, kept, data⟩) .exact))
  generalize upd g n (some (.cells (encM ⟨14, line, dirty, kept, data⟩) .exact)) = g1 at *
  have leaf : ∀ (n' : Nat) (b : Bool), goodM ⟨14, line, dirty, kept, data⟩ = b → aRet K (.bool b) g1 n' := fun n' b h => by
    have k := hK n'
    rw [h] at k
    exact aRet_of hs k
  have lf : ∀ n', aRet K (.bool false) g1 n' := fun n' => leaf n' _ (by unfold goodM; rw [decide_eq_false (by show ¬ (1 ≤ (14 : Int) ∧ (14 : Int) ≤ 14 ∧ 0 ≤ line ∧ line < 64); omega)]; rfl)
  clear hK hn leaf
  rcases Int.lt_or_le line 0 with h0 | h0
  · have h1 : decide (line < 0) = true := decide_eq_true h0
    (repeat (first
      | refine ldM0 hl ?_
      | refine ldM1 hl ?_
      | rw [kBin_lss]
      | rw [kUn_not]
      | refine kSplit_t h1 ?_
      | refine kSplit_t rfl ?_
      | refine kSplit_f rfl ?_
      | refine rAsks_spec (fun _ => ?_)
      | refine rAnswers_spec (fun _ => ?_)
      | refine rTells_spec (fun _ => ?_)
      | exact lf _))
  · have h1 : decide (line < 0) = false := by rw [decide_eq_false_iff_not]; omega
    have h2 : decide (63 < line) = true := by rw [decide_eq_true_eq]; omega
    (repeat (first
      | refine ldM0 hl ?_
      | refine ldM1 hl ?_
      | rw [kBin_lss]
      | rw [kBin_gtr]
      | rw [kUn_not]
      | refine kSplit_f h1 ?_
      | refine kSplit_t h2 ?_
      | refine kSplit_t rfl ?_
      | refine kSplit_f rfl ?_
      | refine rAsks_spec (fun _ => ?_)
      | refine rAnswers_spec (fun _ => ?_)
      | refine rTells_spec (fun _ => ?_)
      | exact lf _))
end
theorem rGood_spec {m : Ms} {K : Cont} (hK : ∀ n', K (.bool (goodM m)) g n') : AC bellowsref06_Good_id [.agg (encM m).toArray] g n K := by
  refine ACalls.fold X0_mono ?_
  rw [← bellowsref06_Good_eq]
  obtain ⟨kind, line, dirty, kept, data⟩ := m
  by_cases hkr : 1 ≤ kind ∧ kind ≤ 14
  · have hk : kind = 1 ∨ kind = 2 ∨ kind = 3 ∨ kind = 4 ∨ kind = 5 ∨ kind = 6 ∨ kind = 7 ∨ kind = 8 ∨ kind = 9 ∨ kind = 10 ∨ kind = 11 ∨ kind = 12 ∨ kind = 13 ∨ kind = 14 := by omega
    by_cases hlr : 0 ≤ line ∧ line < 64
    · rcases hk with rfl | rfl | rfl | rfl | rfl | rfl | rfl | rfl | rfl | rfl | rfl | rfl | rfl | rfl
      · exact rg1 hlr hK
      · exact rg2 hlr hK
      · exact rg3 hlr hK
      · exact rg4 hlr hK
      · exact rg5 hlr hK
      · exact rg6 hlr hK
      · exact rg7 hlr hK
      · exact rg8 hlr hK
      · exact rg9 hlr hK
      · exact rg10 hlr hK
      · exact rg11 hlr hK
      · exact rg12 hlr hK
      · exact rg13 hlr hK
      · exact rg14 hlr hK
    · rcases hk with rfl | rfl | rfl | rfl | rfl | rfl | rfl | rfl | rfl | rfl | rfl | rfl | rfl | rfl
      · exact rb1 hlr hK
      · exact rb2 hlr hK
      · exact rb3 hlr hK
      · exact rb4 hlr hK
      · exact rb5 hlr hK
      · exact rb6 hlr hK
      · exact rb7 hlr hK
      · exact rb8 hlr hK
      · exact rb9 hlr hK
      · exact rb10 hlr hK
      · exact rb11 hlr hK
      · exact rb12 hlr hK
      · exact rb13 hlr hK
      · exact rb14 hlr hK
  · simp only [bellowsref06_Good, kAgg_a]
    intro hn
    have hs := (Sub.refl g).new hn (some (.cells (encM ⟨kind, line, dirty, kept, data⟩) .exact))
    have hl := upd_same g n (some (.cells (encM ⟨kind, line, dirty, kept, data⟩) .exact))
    generalize upd g n (some (.cells (encM ⟨kind, line, dirty, kept, data⟩) .exact)) = g1 at *
    have lf : ∀ n', aRet K (.bool false) g1 n' := fun n' => by
      have k := hK n'
      rw [show goodM ⟨kind, line, dirty, kept, data⟩ = false from by unfold goodM; rw [decide_eq_false (by show ¬ (1 ≤ kind ∧ kind ≤ 14 ∧ 0 ≤ line ∧ line < 64); omega)]; rfl] at k
      exact aRet_of hs k
    have e1 : decide (1 ≤ kind ∧ kind ≤ 5) = false := by rw [decide_eq_false_iff_not]; omega
    have e2 : decide (kind = 6 ∨ kind = 7) = false := by rw [decide_eq_false_iff_not]; omega
    have e3 : tellsB kind = false := by unfold tellsB; rw [decide_eq_false_iff_not]; omega
    refine ldM0 hl (rAsks_spec (fun _ => ?_))
    simp only [e1, kUn_not]
    refine kSplit_t rfl (ldM0 hl (rAnswers_spec (fun _ => ?_)))
    simp only [e2, kUn_not]
    refine kSplit_t rfl (ldM0 hl (rTells_spec (fun _ => ?_)))
    simp only [e3, kUn_not]
    exact kSplit_t rfl (lf _)
end Go.Proofs.Ytncodeibkmekmab.Gen

namespace Go.Proofs.Ytncodeibkmekmab.Gen
open Go Go.Proofs.Ytncodeibkmekmab.Abs Go.RowKit
variable {g : G} {n : Nat}
theorem kFill_m3 {a b : Int} {q : Bool} {K : List Value → Prop} (k : K (encM ⟨a, b, false, q, zeroL⟩)) : kFill (encM zeroM) [(0, none, .int .i64 a), (1, none, .int .i64 b), (3, none, .bool q)] K :=
  ⟨rfl, by rw [encM_len]; decide, rfl, by rw [List.length_set, encM_len]; decide, rfl, by rw [List.length_set, List.length_set, encM_len]; decide, k⟩
theorem words_spec {kind line : Int} {s : St} {q : Bool} {K : Cont} (hK : ∀ v' g' n', Sub g g' → Sl encM 12 g' v' [⟨kind, line, dr s, q, if dr s then s.data else zeroL⟩] → (∀ l, blkOf v' = some l → g l = none) → K v' g' n') :
    AC bellowsref08_words_id [.int .i64 kind, .agg (encS s).toArray, .int .i64 line, .bool q] g n K := by
  refine ACalls.fold X0_mono ?_
  rw [← bellowsref08_words_eq]
  simp only [bellowsref08_words, kAgg_a]
  intro hn
  have hs1 := (Sub.refl g).new hn (some (.cells (encS s) .exact))
  have hl5 := upd_same g n (some (.cells (encS s) .exact))
  generalize upd g n (some (.cells (encS s) .exact)) = g1 at *
  refine kFill_m3 (newM (fun g3 hs3 hn9 hl9 => ?_))
  have hsg := hs1.trans hs3
  have hl5' := hs3.live hl5
  have hng : g (n + 1) = none := hs1.none hn9
  have j1 : ∀ (t : Env) (g5 : G) (n5 : Nat), Sub g g5 → g5 (n + 1) = some (.cells (encM ⟨kind, line, dr s, q, if dr s then s.data else zeroL⟩) .exact) → t 9 = ptr (n + 1) 0 → bellowsref08_words_j1 AC K t g5 n5 := by
    intro t g5 n5 hs5 hl t9
    simp only [bellowsref08_words_j1, t9, kPtr_p]
    refine ldM hl (kFill_M ?_)
    intro hn6
    have hs6 := (Sub.refl g5).new hn6 (some (.cells (encM ⟨kind, line, dr s, q, if dr s then s.data else zeroL⟩) .exact))
    refine aRet_of (Sub.refl _) (hK _ _ _ (hs5.trans hs6) (Sl.one (encM_len _) (upd_same _ _ _)) ?_)
    intro l hl; cases hl; exact hs5.none hn6
  have yes : dr s = true → ∀ (t : Env), t 9 = ptr (n + 1) 0 → (kLdN g3 n (0 + 2) 8 fun c23 => kSt g3 (n + 1) (0 + 2) (.bool true) fun g4 => (kPtr (ptr n (0 + 2)) fun l _ => g4 l = g3 l) ∧ kAgg (.agg c23.toArray) fun cg5 => cg5.length = 8 ∧ kStN g4 (n + 1) (0 + 4) cg5 fun g5 => bellowsref08_words_j1 AC K t g5 (n + 1 + 1)) := by
    intro hd t t9
    refine ldSd hl5' (kSt_of hl9 rfl (by rw [encM_len]; decide) rfl ?_)
    refine ⟨upd_ne _ _ (by omega), encL_len _, ?_⟩
    refine stMd (m := ⟨kind, line, true, q, zeroL⟩) (upd_same _ _ _) ?_
    refine j1 _ _ _ ((hsg.upd_fresh _ hng).upd_fresh _ hng) ?_ t9
    rw [upd_same, hd]; rfl
  refine ldS0 hl5' ?_
  rw [kBin_eql]
  by_cases c3 : s.state = 3
  · have hd : dr s = true := by unfold dr; rw [decide_eq_true_eq]; exact .inl c3
    refine kSplit_t (decide_eq_true c3) ?_
    refine ldSd hl5' (kSt_of hl9 rfl (by rw [encM_len]; decide) rfl ?_)
    refine ⟨upd_ne _ _ (by omega), encL_len _, ?_⟩
    refine stMd (m := ⟨kind, line, true, q, zeroL⟩) (upd_same _ _ _) ?_
    refine j1 _ _ _ ((hsg.upd_fresh _ hng).upd_fresh _ hng) ?_ rfl
    rw [upd_same, hd]; rfl
  refine kSplit_f (decide_eq_false c3) (ldS0 hl5' ?_)
  rw [kBin_eql]
  by_cases c9 : s.state = 9
  · have hd : dr s = true := by unfold dr; rw [decide_eq_true_eq]; exact .inr c9
    refine kSplit_t (decide_eq_true c9) ?_
    refine ldSd hl5' (kSt_of hl9 rfl (by rw [encM_len]; decide) rfl ?_)
    refine ⟨upd_ne _ _ (by omega), encL_len _, ?_⟩
    refine stMd (m := ⟨kind, line, true, q, zeroL⟩) (upd_same _ _ _) ?_
    refine j1 _ _ _ ((hsg.upd_fresh _ hng).upd_fresh _ hng) ?_ rfl
    rw [upd_same, hd]; rfl
  refine kSplit_f (decide_eq_false c9) ?_
  have hd : dr s = false := by unfold dr; rw [decide_eq_false_iff_not]; omega
  refine j1 _ _ _ hsg ?_ rfl
  rw [hl9, hd]; rfl
/-- what losing a line comes to -/
def Arr.lose (A : Arr) (line : Int) (s : St) : List Ms × Arr × Int :=
  if 1 ≤ s.state ∧ s.state ≤ 3 then ([⟨6, line, dr s, false, if dr s then s.data else zeroL⟩], A.drop line, 0) else
  if s.state = 6 then ([⟨6, line, dr s, false, if dr s then s.data else zeroL⟩], (A.set line 5 zeroL).2, 0) else
  if s.state = 7 ∨ s.state = 9 then ([⟨6, line, dr s, false, if dr s then s.data else zeroL⟩], (A.set line 8 zeroL).2, 0) else ([], A, 16)
def Arr.share (A : Arr) (line : Int) (s : St) : List Ms × Arr × Int :=
  if s.state = 2 ∨ s.state = 3 then ([⟨7, line, dr s, true, if dr s then s.data else zeroL⟩], (A.set line 1 s.data).2, 0) else
  if s.state = 7 ∨ s.state = 9 then ([⟨7, line, dr s, false, if dr s then s.data else zeroL⟩], (A.set line 8 zeroL).2, 0) else ([], A, 16)
theorem lose_spec {A : Arr} {lg la ls : Nat} {line : Int} {s : St} (hok : A.ok) (hw : A.wf) (hu : A.used < 100000) (hh : AgH g lg la ls A) {K : Cont}
    (hK : ∀ v' g' n', Out g g' lg la ls (A.lose line s).2.1 v' (A.lose line s).1 → K (.tuple #[v', .int .i64 (A.lose line s).2.2]) g' n') : AC bellowsref08_Agent_lose_id [ptr lg 0, .agg (encS s).toArray, .int .i64 line] g n K := by
  refine ACalls.fold X0_mono ?_
  rw [← bellowsref08_Agent_lose_eq]
  simp only [bellowsref08_Agent_lose, kAgg_a]
  intro hn
  have hs1 := (Sub.refl g).new hn (some (.cells (encS s) .exact))
  have hl4 := upd_same g n (some (.cells (encS s) .exact))
  have ap := And.intro (ne_of_live hh.arr.obj hn) (ne_of_live hh.arr.row hn)
  generalize upd g n (some (.cells (encS s) .exact)) = g1 at *
  have hh1 := hh.mono hs1
  have j2 : ∀ (t : Env) (g2 : G) (n2 : Nat) (A' : Arr), A.lose line s = ([⟨6, line, dr s, false, if dr s then s.data else zeroL⟩], A', 0) → Sub (hide g1 la ls) g2 → ArrH g2 la ls A' → t 2 = .int .i64 line → t 4 = ptr n 0 → bellowsref08_Agent_lose_j2 AC K t g2 n2 := by
    intro t g2 n2 A' e hs2 hh2 t2 t4
    rw [e] at hK
    simp only [bellowsref08_Agent_lose_j2, t2, t4, kPtr_p]
    refine ldS (x := s) (hs2.live (hide_live ap.1 ap.2 hl4)) ?_
    exact words_spec (fun v' g' n' hs' hsl hfr => aRet_of (Sub.refl _) (hK _ _ _ ((Out.of_one hh1 hs2 hh2 hs' hsl hfr).of hs1)))
  have j3 : ∀ (t : Env) (n2 : Nat), ¬ (1 ≤ s.state ∧ s.state ≤ 3) → ¬ s.state = 6 → t 29 = .bool (decide (s.state = 7 ∨ s.state = 9)) → t 0 = ptr lg 0 → t 2 = .int .i64 line → t 4 = ptr n 0 → bellowsref08_Agent_lose_j3 AC K t g1 n2 := by
    intro t n2 c1 c6 t29 t0 t2 t4
    simp only [bellowsref08_Agent_lose_j3, t29, t0, t2, kSplit_b, decide_eq_true_eq, decide_eq_false_iff_not, kNil_p, kPtr_p, kFill_nil]
    refine ⟨fun h7 => ldA hh1 (refSet_spec (d := zeroL) hok hw hu hh1.arr (fun g2 n2 hs2 hh2 => ?_)), fun h7 => ?_⟩
    · exact j2 _ _ _ _ (by unfold Arr.lose; rw [if_neg c1, if_neg c6, if_pos h7]) hs2 hh2 t2 t4
    · have e : A.lose line s = ([], A, 16) := by unfold Arr.lose; rw [if_neg c1, if_neg c6, if_neg h7]
      rw [e] at hK
      exact aRet_of (Sub.refl _) (hK _ _ _ ((Out.nil hh1).of hs1))
  have j1 : ∀ (t : Env) (n2 : Nat), t 10 = .bool (decide (1 ≤ s.state ∧ s.state ≤ 3)) → t 0 = ptr lg 0 → t 2 = .int .i64 line → t 4 = ptr n 0 → t 9 = .int .i64 s.state → bellowsref08_Agent_lose_j1 AC K t g1 n2 := by
    intro t n2 t10 t0 t2 t4 t9
    simp only [bellowsref08_Agent_lose_j1, t10, t0, t2, t9, kSplit_b, decide_eq_true_eq, decide_eq_false_iff_not, kNil_p, kPtr_p, kFill_nil, kBin_eql]
    refine ⟨fun c1 => ldA hh1 (refDrop_spec hok hw hh1.arr (fun g2 n2 hs2 hh2 => ?_)), fun c1 => ⟨fun c6 => ldA hh1 (refSet_spec (d := zeroL) hok hw hu hh1.arr (fun g2 n2 hs2 hh2 => ?_)), fun c6 => ⟨fun c7 => ?_, fun c7 => ?_⟩⟩⟩
    · exact j2 _ _ _ _ (by unfold Arr.lose; rw [if_pos c1]) hs2 hh2 t2 t4
    · exact j2 _ _ _ _ (by unfold Arr.lose; rw [if_neg c1, if_pos c6]) hs2 hh2 t2 t4
    · exact j3 _ _ c1 c6 (by show Value.bool (decide (s.state = 7)) = _; congr 1; rw [decide_eq_decide]; omega) t0 t2 t4
    · exact j3 _ _ c1 c6 (by show Value.bool (decide (s.state = 9)) = _; congr 1; rw [decide_eq_decide]; omega) t0 t2 t4
  refine ldS0 hl4 ?_
  simp only [kBin_eql, kSplit_b, decide_eq_true_eq, decide_eq_false_iff_not]
  refine ⟨fun h1 => j1 _ _ ?_ rfl rfl rfl rfl, fun h1 => ⟨fun h2 => j1 _ _ ?_ rfl rfl rfl rfl, fun h2 => j1 _ _ ?_ rfl rfl rfl rfl⟩⟩
  · show Value.bool (decide (s.state = 1)) = _; congr 1; rw [decide_eq_decide]; omega
  · show Value.bool (decide (s.state = 2)) = _; congr 1; rw [decide_eq_decide]; omega
  · show Value.bool (decide (s.state = 3)) = _; congr 1; rw [decide_eq_decide]; omega
theorem share_spec {A : Arr} {lg la ls : Nat} {line : Int} {s : St} (hok : A.ok) (hw : A.wf) (hu : A.used < 100000) (hh : AgH g lg la ls A) {K : Cont}
    (hK : ∀ v' g' n', Out g g' lg la ls (A.share line s).2.1 v' (A.share line s).1 → K (.tuple #[v', .int .i64 (A.share line s).2.2]) g' n') : AC bellowsref08_Agent_share_id [ptr lg 0, .agg (encS s).toArray, .int .i64 line] g n K := by
  refine ACalls.fold X0_mono ?_
  rw [← bellowsref08_Agent_share_eq]
  simp only [bellowsref08_Agent_share, kAgg_a]
  intro hn
  have hs1 := (Sub.refl g).new hn (some (.cells (encS s) .exact))
  have hl4 := upd_same g n (some (.cells (encS s) .exact))
  have ap := And.intro (ne_of_live hh.arr.obj hn) (ne_of_live hh.arr.row hn)
  generalize upd g n (some (.cells (encS s) .exact)) = g1 at *
  have hh1 := hh.mono hs1
  have j2 : ∀ (t : Env) (n2 : Nat), ¬ (s.state = 2 ∨ s.state = 3) → t 24 = .bool (decide (s.state = 7 ∨ s.state = 9)) → t 0 = ptr lg 0 → t 2 = .int .i64 line → t 4 = ptr n 0 → bellowsref08_Agent_share_j2 AC K t g1 n2 := by
    intro t n2 c1 t24 t0 t2 t4
    simp only [bellowsref08_Agent_share_j2, t24, t0, t2, t4, kSplit_b, decide_eq_true_eq, decide_eq_false_iff_not, kNil_p, kPtr_p, kFill_nil]
    refine ⟨fun h7 => ldA hh1 (refSet_spec (d := zeroL) hok hw hu hh1.arr (fun g2 n2 hs2 hh2 => ?_)), fun h7 => ?_⟩
    · have e : A.share line s = ([⟨7, line, dr s, false, if dr s then s.data else zeroL⟩], (A.set line 8 zeroL).2, 0) := by unfold Arr.share; rw [if_neg c1, if_pos h7]
      rw [e] at hK
      refine ldS (x := s) (hs2.live (hide_live ap.1 ap.2 hl4)) ?_
      exact words_spec (fun v' g' n' hs' hsl hfr => aRet_of (Sub.refl _) (hK _ _ _ ((Out.of_one hh1 hs2 hh2 hs' hsl hfr).of hs1)))
    · have e : A.share line s = ([], A, 16) := by unfold Arr.share; rw [if_neg c1, if_neg h7]
      rw [e] at hK
      exact aRet_of (Sub.refl _) (hK _ _ _ ((Out.nil hh1).of hs1))
  have j1 : ∀ (t : Env) (n2 : Nat), t 10 = .bool (decide (s.state = 2 ∨ s.state = 3)) → t 0 = ptr lg 0 → t 2 = .int .i64 line → t 4 = ptr n 0 → t 9 = .int .i64 s.state → bellowsref08_Agent_share_j1 AC K t g1 n2 := by
    intro t n2 t10 t0 t2 t4 t9
    simp only [bellowsref08_Agent_share_j1, t10, t0, t2, t4, t9, kSplit_b, decide_eq_true_eq, decide_eq_false_iff_not, kNil_p, kPtr_p, kBin_eql]
    refine ⟨fun c1 => ldA hh1 (ldSd hl4 (refSet_spec (d := s.data) hok hw hu hh1.arr (fun g2 n2 hs2 hh2 => ?_))), fun c1 => ⟨fun c7 => ?_, fun c7 => ?_⟩⟩
    · have e : A.share line s = ([⟨7, line, dr s, true, if dr s then s.data else zeroL⟩], (A.set line 1 s.data).2, 0) := by unfold Arr.share; rw [if_pos c1]
      rw [e] at hK
      refine ldS (x := s) (hs2.live (hide_live ap.1 ap.2 hl4)) ?_
      exact words_spec (fun v' g' n' hs' hsl hfr => aRet_of (Sub.refl _) (hK _ _ _ ((Out.of_one hh1 hs2 hh2 hs' hsl hfr).of hs1)))
    · exact j2 _ _ c1 (by show Value.bool (decide (s.state = 7)) = _; congr 1; rw [decide_eq_decide]; omega) t0 t2 t4
    · exact j2 _ _ c1 (by show Value.bool (decide (s.state = 9)) = _; congr 1; rw [decide_eq_decide]; omega) t0 t2 t4
  refine ldS0 hl4 ?_
  simp only [kBin_eql, kSplit_b, decide_eq_true_eq, decide_eq_false_iff_not]
  refine ⟨fun h1 => j1 _ _ ?_ rfl rfl rfl rfl, fun h1 => j1 _ _ ?_ rfl rfl rfl rfl⟩
  · show Value.bool (decide (s.state = 2)) = _; congr 1; rw [decide_eq_decide]; omega
  · show Value.bool (decide (s.state = 3)) = _; congr 1; rw [decide_eq_decide]; omega
end Go.Proofs.Ytncodeibkmekmab.Gen

namespace Go.Proofs.Ytncodeibkmekmab.Gen
open Go Go.Proofs.Ytncodeibkmekmab.Abs Go.RowKit
variable {g : G} {n : Nat}
theorem hear_at {A : Arr} {m : Ms} {x : Int} (hg : goodM m = true) (ht : tellsB m.kind = true) (hx : turn m.kind (A.slot m.line).state = x) :
    A.hear m = (if x = -1 then ([], A, 16) else if x = -2 then ([], A, 0) else if x = 0 then (ansM m (A.slot m.line) 0, A.drop m.line, 0) else (ansM m (A.slot m.line) x, (A.set m.line x (hearD m (A.slot m.line) x)).2, 0)) := by
  unfold Arr.hear
  rw [if_neg (by rw [hg, ht]; decide), hx]
theorem hear_no {A : Arr} {m : Ms} (hg : goodM m = true) (ht : tellsB m.kind = true) (hx : turn m.kind (A.slot m.line).state = -1) : A.hear m = ([], A, 16) := by
  rw [hear_at hg ht hx, if_pos rfl]
theorem hear_dr {A : Arr} {m : Ms} (hg : goodM m = true) (ht : tellsB m.kind = true) (hx : turn m.kind (A.slot m.line).state = 0) : A.hear m = (ansM m (A.slot m.line) 0, A.drop m.line, 0) := by
  rw [hear_at hg ht hx, if_neg (by decide), if_neg (by decide), if_pos rfl]
theorem hear_to {A : Arr} {m : Ms} (x : Int) (h0 : 0 < x) (hg : goodM m = true) (ht : tellsB m.kind = true) (hx : turn m.kind (A.slot m.line).state = x) : A.hear m = (ansM m (A.slot m.line) x, (A.set m.line x (hearD m (A.slot m.line) x)).2, 0) := by
  rw [hear_at hg ht hx, if_neg (by omega), if_neg (by omega), if_neg (by omega)]
def setTwo (k s : Int) : Bool := decide ((k = 9 ∧ s = 4) ∨ (k = 10 ∧ (s = 5 ∨ s = 6)))
def Arr.hear2 (A : Arr) (m : Ms) : List Ms × Arr × Int :=
  if m.kind = 11 ∧ 7 ≤ (A.slot m.line).state then ([], A.drop m.line, 0) else
  if m.kind = 12 then A.lose m.line (A.slot m.line) else if m.kind = 13 then A.share m.line (A.slot m.line) else ([], A, 16)
theorem hear_eq {A : Arr} {m : Ms} (hst : 0 ≤ (A.slot m.line).state ∧ (A.slot m.line).state ≤ 9) (hg : goodM m = true) (ht : tellsB m.kind = true) (h14 : m.kind ≠ 14) :
    A.hear m = (if m.kind = 8 ∧ (A.slot m.line).state = 4 then ([], (A.set m.line 1 m.data).2, 0) else if setTwo m.kind (A.slot m.line).state = true then ([], (A.set m.line 2 m.data).2, 0) else A.hear2 m) := by
  have hkd : 8 ≤ m.kind ∧ m.kind ≤ 14 := of_decide_eq_true (show decide _ = true from ht)
  obtain ⟨kind, line, dirty, kept, data⟩ := m
  simp only at *
  have hk : kind = 8 ∨ kind = 9 ∨ kind = 10 ∨ kind = 11 ∨ kind = 12 ∨ kind = 13 := by omega
  clear hkd h14
  unfold Arr.hear2 Arr.lose Arr.share setTwo
  simp only
  rcases hk with rfl | rfl | rfl | rfl | rfl | rfl
  · by_cases h4 : (A.slot line).state = 4
    · rw [hear_to 1 (by decide) hg ht (by show turn 8 (A.slot line).state = 1; rw [h4]; rfl), if_pos ⟨rfl, h4⟩]; rfl
    · rw [hear_no hg ht (by show turn 8 (A.slot line).state = -1; unfold turn; simp [h4]), if_neg (fun h => h4 h.2)]; rfl
  · by_cases h4 : (A.slot line).state = 4
    · rw [hear_to 2 (by decide) hg ht (by show turn 9 (A.slot line).state = 2; rw [h4]; rfl), if_neg (fun h => absurd h.1 (by decide)), if_pos (by rw [decide_eq_true_eq]; exact .inl ⟨rfl, h4⟩)]; rfl
    · rw [hear_no hg ht (by show turn 9 (A.slot line).state = -1; unfold turn; simp [h4]), if_neg (fun h => absurd h.1 (by decide)), if_neg (by rw [decide_eq_true_eq]; omega)]; rfl
  · by_cases h4 : (A.slot line).state = 5 ∨ (A.slot line).state = 6
    · rw [hear_to 2 (by decide) hg ht (by show turn 10 (A.slot line).state = 2; unfold turn; simp [h4]), if_neg (fun h => absurd h.1 (by decide)), if_pos (by rw [decide_eq_true_eq]; exact .inr ⟨rfl, h4⟩)]; rfl
    · rw [hear_no hg ht (by show turn 10 (A.slot line).state = -1; unfold turn; simp [h4]), if_neg (fun h => absurd h.1 (by decide)), if_neg (by rw [decide_eq_true_eq]; omega)]; rfl
  · rw [if_neg (fun h => absurd h.1 (by decide)), if_neg (by rw [decide_eq_true_eq]; omega)]
    by_cases h7 : 7 ≤ (A.slot line).state
    · rw [hear_dr hg ht (by show turn 11 (A.slot line).state = 0; unfold turn; simp [h7]), if_pos ⟨rfl, h7⟩]; rfl
    · rw [hear_no hg ht (by show turn 11 (A.slot line).state = -1; unfold turn; simp [h7]), if_neg (fun h => h7 h.2)]; rfl
  · rw [if_neg (fun h => absurd h.1 (by decide)), if_neg (by rw [decide_eq_true_eq]; omega), if_neg (fun h => absurd h.1 (by decide)), if_pos rfl]
    by_cases h1 : 1 ≤ (A.slot line).state ∧ (A.slot line).state ≤ 3
    · rw [hear_dr hg ht (by show turn 12 (A.slot line).state = 0; unfold turn; simp [h1]), if_pos h1]; rfl
    · rw [if_neg h1]
      by_cases h6 : (A.slot line).state = 6
      · rw [hear_to 5 (by decide) hg ht (by show turn 12 (A.slot line).state = 5; rw [h6]; rfl), if_pos h6]; rfl
      · rw [if_neg h6]
        by_cases h7 : (A.slot line).state = 7 ∨ (A.slot line).state = 9
        · rw [hear_to 8 (by decide) hg ht (by show turn 12 (A.slot line).state = 8; rcases h7 with h | h <;> rw [h] <;> rfl), if_pos h7]; rfl
        · rw [if_neg h7, hear_no hg ht (by show turn 12 (A.slot line).state = -1; unfold turn; rw [if_neg (by decide), if_neg (by decide), if_neg (by decide), if_neg (by decide), if_neg (by decide), if_pos rfl, if_neg h1, if_neg h6, if_neg h7])]
  · rw [if_neg (fun h => absurd h.1 (by decide)), if_neg (by rw [decide_eq_true_eq]; omega), if_neg (fun h => absurd h.1 (by decide)), if_neg (by decide), if_pos rfl]
    by_cases h2 : (A.slot line).state = 2 ∨ (A.slot line).state = 3
    · rw [hear_to 1 (by decide) hg ht (by show turn 13 (A.slot line).state = 1; rcases h2 with h | h <;> rw [h] <;> rfl), if_pos h2]; rfl
    · rw [if_neg h2]
      by_cases h7 : (A.slot line).state = 7 ∨ (A.slot line).state = 9
      · rw [hear_to 8 (by decide) hg ht (by show turn 13 (A.slot line).state = 8; rcases h7 with h | h <;> rw [h] <;> rfl), if_pos h7]; rfl
      · rw [if_neg h7, hear_no hg ht (by show turn 13 (A.slot line).state = -1; unfold turn; rw [if_neg (by decide), if_neg (by decide), if_neg (by decide), if_neg (by decide), if_neg (by decide), if_neg (by decide), if_pos rfl, if_neg h2, if_neg h7])]
theorem rHear_spec {A : Arr} {lg la ls : Nat} {m : Ms} (hok : A.ok) (hw : A.wf) (hu : A.used < 100000) (hh : AgH g lg la ls A) {K : Cont}
    (hK : ∀ v' g' n', Out g g' lg la ls (A.hear m).2.1 v' (A.hear m).1 → K (.tuple #[v', .int .i64 (A.hear m).2.2]) g' n') :
    AC bellowsref08_Agent_Hear_id [ptr lg 0, .agg (encM m).toArray] g n K := by
  refine ACalls.fold X0_mono ?_
  rw [← bellowsref08_Agent_Hear_eq]
  simp only [bellowsref08_Agent_Hear, kAgg_a]
  intro hn
  have hs1 := (Sub.refl g).new hn (some (.cells (encM m) .exact))
  have hl3 := upd_same g n (some (.cells (encM m) .exact))
  generalize upd g n (some (.cells (encM m) .exact)) = g1 at *
  have hh1 := hh.mono hs1
  refine ldM hl3 (rGood_spec (fun n2 => ?_))
  simp only [kUn_not, kSplit_b, Bool.not_eq_true', Bool.not_eq_false']
  refine ⟨fun hg => ?_, fun hg => ldM0 hl3 (rTells_spec (fun n3 => ?_))⟩
  · have e : A.hear m = ([], A, 1) := by unfold Arr.hear; rw [if_pos (.inl hg)]
    rw [e] at hK
    exact aRet_of (Sub.refl _) (hK _ _ _ ((Out.nil hh1).of hs1))
  simp only [kUn_not, kSplit_b, Bool.not_eq_true', Bool.not_eq_false']
  refine ⟨fun ht => ?_, fun ht => ldM0 hl3 ?_⟩
  · have e : A.hear m = ([], A, 1) := by unfold Arr.hear; rw [if_pos (.inr ht)]
    rw [e] at hK
    exact aRet_of (Sub.refl _) (hK _ _ _ ((Out.nil hh1).of hs1))
  simp only [kBin_eql, kSplit_b, decide_eq_true_eq, decide_eq_false_iff_not]
  refine ⟨fun h14 => ?_, fun h14 => ldM1 hl3 (rSlot_spec hok hw hh1 (fun n4 => newS (s := A.slot m.line) (fun g6 hs6 hn6 hl6 => ?_)))⟩
  · have e : A.hear m = ([], A, 0) := by
      rw [hear_at (x := -2) hg ht (by rw [h14]; rfl)]; rfl
    rw [e] at hK
    exact aRet_of (Sub.refl _) (hK _ _ _ ((Out.nil hh1).of hs1))
  have hh6 := hh1.mono hs6
  have hl3' := hs6.live hl3
  have hsg := hs1.trans hs6
  have hst := slot_state hok hw m.line
  rw [hear_eq hst hg ht h14] at hK
  unfold Arr.hear2 at hK
  have hkd : 8 ≤ m.kind ∧ m.kind ≤ 14 := of_decide_eq_true (show decide _ = true from ht)
  generalize hse : A.slot m.line = s at *
  have fin : ∀ {g7 : G} {n7 : Nat} {A' : Arr} {f : Int}, Sub (hide g6 la ls) g7 → ArrH g7 la ls A' → (∀ v' g' n', Out g g' lg la ls A' v' [] → K (.tuple #[v', .int .i64 f]) g' n') → aRet K (.tuple #[.slice none 0 0, .int .i64 f]) g7 n7 := by
    intro g7 n7 A' f h1 h2 hk
    exact aRet_of (Sub.refl _) (hk _ _ _ ⟨(hide_mono hsg).trans h1, hh6.next h1 h2, Sl.nil, fun l hl => nomatch hl⟩)
  have j1 : ∀ (t : Env) (n7 : Nat), ¬ (m.kind = 8 ∧ s.state = 4) → t 41 = .bool (setTwo m.kind s.state) → t 0 = ptr lg 0 → t 3 = ptr n 0 → t 6 = ptr n4 0 → bellowsref08_Agent_Hear_j1 AC K t g6 n7 := by
    intro t n7 hc t41 t0 t3 t6
    rw [if_neg hc] at hK
    simp only [bellowsref08_Agent_Hear_j1, t41, t0, t3, t6, kSplit_b, kNil_p, kPtr_p]
    refine ⟨fun h2 => ?_, fun h2 => ldM0 hl3' ?_⟩
    · rw [if_pos h2] at hK
      exact ldA hh6 (ldM1 hl3' (ldMd hl3' (refSet_spec (d := m.data) hok hw hu hh6.arr (fun g7 n7 hs7 hh7 => fin hs7 hh7 hK))))
    rw [if_neg (by rw [h2]; decide)] at hK
    have drop : m.kind = 11 → 7 ≤ s.state → AC bellowsref05_Array_Drop_id [ptr la 0, .int .i64 m.line] g6 n7 fun _ g9 n97 => aRet K (.tuple #[.slice none 0 0, .int .i64 0]) g9 n97 := by
      intro h11 h7
      rw [if_pos ⟨h11, h7⟩] at hK
      exact refDrop_spec hok hw hh6.arr (fun g7 n7 hs7 hh7 => fin hs7 hh7 hK)
    have rest : ¬ (m.kind = 11 ∧ 7 ≤ s.state) → (kLd g6 n (0 + 0) fun v100 => kBin .int .eql v100 (.int .i64 12) fun v101 => kSplit v101 (kLdN g6 n4 0 11 fun c103 => kLd g6 n (0 + 1) fun v105 => AC bellowsref08_Agent_lose_id [ptr lg 0, .agg c103.toArray, v105] g6 n7 fun v106 g12 n106 =>
        kExtract v106 0 fun v107 => kExtract v106 1 fun v108 => aRet K (.tuple #[v107, v108]) g12 n106) (kLd g6 n (0 + 0) fun v111 => kBin .int .eql v111 (.int .i64 13) fun v112 => kSplit v112 (kLdN g6 n4 0 11 fun c114 => kLd g6 n (0 + 1) fun v116 =>
        AC bellowsref08_Agent_share_id [ptr lg 0, .agg c114.toArray, v116] g6 n7 fun v117 g13 n117 => kExtract v117 0 fun v118 => kExtract v117 1 fun v119 => aRet K (.tuple #[v118, v119]) g13 n117) (aRet K (.tuple #[.slice none 0 0, .int .i64 16]) g6 n7))) := by
      intro h11
      rw [if_neg h11] at hK
      refine ldM0 hl3' ?_
      rw [kBin_eql]
      by_cases h12 : m.kind = 12
      · rw [if_pos h12] at hK
        refine kSplit_t (decide_eq_true h12) (ldS (x := s) hl6 (ldM1 hl3' (lose_spec hok hw hu hh6 (fun v' g' n' o => ?_))))
        simp only [kExtract_t, kGet_zero, kGet_succ]
        exact aRet_of (Sub.refl _) (hK _ _ _ (o.of hsg))
      rw [if_neg h12] at hK
      refine kSplit_f (decide_eq_false h12) (ldM0 hl3' ?_)
      rw [kBin_eql]
      by_cases h13 : m.kind = 13
      · rw [if_pos h13] at hK
        refine kSplit_t (decide_eq_true h13) (ldS (x := s) hl6 (ldM1 hl3' (share_spec hok hw hu hh6 (fun v' g' n' o => ?_))))
        simp only [kExtract_t, kGet_zero, kGet_succ]
        exact aRet_of (Sub.refl _) (hK _ _ _ (o.of hsg))
      rw [if_neg h13] at hK
      refine kSplit_f (decide_eq_false h13) (fin (hide_sub g6 la ls) hh6.arr hK)
    rw [kBin_eql]
    by_cases h11 : m.kind = 11
    · refine kSplit_t (decide_eq_true h11) (ldS0 hl6 ?_)
      rw [kBin_eql]
      by_cases h7 : s.state = 7
      · exact kSplit_t (decide_eq_true h7) (ldA hh6 (ldM1 hl3' (drop h11 (by omega))))
      refine kSplit_f (decide_eq_false h7) (ldS0 hl6 ?_)
      rw [kBin_eql]
      by_cases h9 : s.state = 9
      · exact kSplit_t (decide_eq_true h9) (ldA hh6 (ldM1 hl3' (drop h11 (by omega))))
      refine kSplit_f (decide_eq_false h9) (ldS0 hl6 ?_)
      rw [kBin_eql]
      by_cases h8 : s.state = 8
      · exact kSplit_t (decide_eq_true h8) (ldA hh6 (ldM1 hl3' (drop h11 (by omega))))
      exact kSplit_f (decide_eq_false h8) (rest (by omega))
    · exact kSplit_f (decide_eq_false h11) (rest (fun h => h11 h.1))
  have ten : ∀ (t t' t'' : Env) (n7 n8 n9 : Nat), True := fun _ _ _ _ _ _ => trivial
  have b2 : ∀ {b : Bool}, (b = true ↔ ((m.kind = 9 ∧ s.state = 4) ∨ (m.kind = 10 ∧ (s.state = 5 ∨ s.state = 6)))) → Value.bool b = .bool (setTwo m.kind s.state) := fun h => by
    unfold setTwo; congr 1; rw [Bool.eq_iff_iff, decide_eq_true_eq]; exact h
  refine ldM0 hl3' ?_
  rw [kBin_eql]
  by_cases k8 : m.kind = 8
  · refine kSplit_t (decide_eq_true k8) (ldS0 hl6 ?_)
    rw [kBin_eql]
    by_cases s4 : s.state = 4
    · refine kSplit_t (decide_eq_true s4) ?_
      rw [if_pos ⟨k8, s4⟩] at hK
      simp only [kNil_p, kPtr_p]
      exact ldA hh6 (ldM1 hl3' (ldMd hl3' (refSet_spec (d := m.data) hok hw hu hh6.arr (fun g7 n7 hs7 hh7 => fin hs7 hh7 hK))))
    · refine kSplit_f (decide_eq_false s4) (ldM0 hl3' ?_)
      rw [kBin_eql]
      refine kSplit_f (by rw [decide_eq_false_iff_not]; omega) (ldM0 hl3' ?_)
      rw [kBin_eql]
      refine kSplit_f (by rw [decide_eq_false_iff_not]; omega) (j1 _ _ (by omega) ?_ rfl rfl rfl)
      exact b2 (by simp; omega)
  refine kSplit_f (decide_eq_false k8) (ldM0 hl3' ?_)
  rw [kBin_eql]
  by_cases k9 : m.kind = 9
  · refine kSplit_t (decide_eq_true k9) (ldS0 hl6 ?_)
    rw [kBin_eql]
    by_cases s4 : s.state = 4
    · refine kSplit_t (decide_eq_true s4) (j1 _ _ (by omega) ?_ rfl rfl rfl)
      exact b2 (by simp; omega)
    · refine kSplit_f (decide_eq_false s4) (ldM0 hl3' ?_)
      rw [kBin_eql]
      refine kSplit_f (by rw [decide_eq_false_iff_not]; omega) (j1 _ _ (by omega) ?_ rfl rfl rfl)
      exact b2 (by simp; omega)
  refine kSplit_f (decide_eq_false k9) (ldM0 hl3' ?_)
  rw [kBin_eql]
  by_cases k10 : m.kind = 10
  · refine kSplit_t (decide_eq_true k10) (ldS0 hl6 ?_)
    rw [kBin_eql]
    by_cases s5 : s.state = 5
    · refine kSplit_t (decide_eq_true s5) (j1 _ _ (by omega) ?_ rfl rfl rfl)
      exact b2 (by simp; omega)
    · refine kSplit_f (decide_eq_false s5) (ldS0 hl6 ?_)
      rw [kBin_eql]
      refine j1 _ _ (by omega) ?_ rfl rfl rfl
      exact b2 (by rw [decide_eq_true_eq]; omega)
  refine kSplit_f (decide_eq_false k10) (j1 _ _ (by omega) ?_ rfl rfl rfl)
  exact b2 (by simp; omega)
end Go.Proofs.Ytncodeibkmekmab.Gen

namespace Go.Proofs.Ytncodeibkmekmab.Gen
open Go Go.Proofs.Ytncodeibkmekmab.Abs Go.RowKit
variable {g : G} {n : Nat}
theorem neqM (m : Ms) (K : Value → Prop) (h : K (.bool false)) : kBin (.agg [.i, .i, .b, .b, .i, .i, .i, .i, .i, .i, .i, .i]) .neq (.agg (encM m).toArray) (.agg (encM m).toArray) K := by
  have e := leaves_ints (k := .u64) m.data.1 m.data.1 rfl
  rw [m.data.2] at e
  have e1 : leavesEq [.i, .i, .i, .i, .i, .i, .i, .i] (encL m.data) (encL m.data) = some true := by rw [decide_eq_true rfl] at e; exact e
  have e2 : leavesEq [.i, .i, .b, .b, .i, .i, .i, .i, .i, .i, .i, .i] (encM m) (encM m) = some true := by
    show leavesEq _ (.int .i64 m.kind :: .int .i64 m.line :: .bool m.dirty :: .bool m.kept :: encL m.data) (.int .i64 m.kind :: .int .i64 m.line :: .bool m.dirty :: .bool m.kept :: encL m.data) = _
    simp only [leavesEq, leafEq, if_true]
    rw [e1]
    simp
  show (match leavesEq [.i, .i, .b, .b, .i, .i, .i, .i, .i, .i, .i, .i] (encM m) (encM m) with | some r => kCmp .neq r K | none => False)
  rw [e2]
  exact h
theorem Msgs_spec {v1 v2 : Value} {xs : List Ms} (h1 : Sl encM 12 g v1 xs) (h2 : Sl encM 12 g v2 xs) (hlen : xs.length ≤ 1) {K : Cont} (hK : ∀ n', K (.bool true) g n') : AC bellowskeep_Msgs_id [v1, v2] g n K := by
  refine ACalls.fold X0_mono ?_
  rw [← bellowskeep_Msgs_eq]
  simp only [bellowskeep_Msgs]
  refine h1.len (h2.len ?_)
  simp only [kBin_neq]
  refine kSplit_f (by simp) ?_
  refine lfp_ind (fun m t g' n' => g' = g ∧ ∃ i : Nat, m = xs.length - i ∧ i ≤ xs.length ∧ t 0 = v1 ∧ t 1 = v2 ∧ t 5 = .int .i64 i) ?_ (m := xs.length) ⟨rfl, 0, by simp, by simp, rfl, rfl, rfl⟩
  rintro I m t g1 n1 hI ⟨rfl, i, hm, hi, t0, t1, t5⟩
  simp only [bellowskeep_Msgs_l1, t0, t1, t5]
  refine h1.len ?_
  simp only [kBin_lss, kSplit_b, decide_eq_true_eq, decide_eq_false_iff_not]
  refine ⟨fun hlt => ?_, fun hge => aRet_of (Sub.refl _) (hK _)⟩
  have hlt : i < xs.length := by omega
  have he : xs[i]? = some xs[i] := List.getElem?_eq_getElem hlt
  generalize xs[i] = s at he
  refine h1.idx encM_len he (fun l o hat => ?_)
  simp only [kPtr_p]
  refine hat.ldN (encM_len _).symm ?_
  refine h2.idx encM_len he (fun l o hat => ?_)
  simp only [kPtr_p]
  refine hat.ldN (encM_len _).symm (neqM _ _ ?_)
  refine kSplit_f rfl ?_
  simp only [kBin_add]
  rw [wrapNat (by omega)]
  exact hI (xs.length - (i + 1)) _ _ _ (by omega) ⟨rfl, i + 1, rfl, by omega, t0, t1, rfl⟩
theorem AgNew2_spec {s w : Int} {K : Cont} (hbad : ¬ goodA s w → ∀ n', K (.tuple #[.pointer none, .int .i64 1]) g n') (hK : goodA s w → ∀ lg la ls g' n', Sub g g' → g lg = none → g la = none → g ls = none → AgH g' lg la ls (arr0 s.toNat w.toNat) → K (.tuple #[ptr lg 0, .int .i64 0]) g' n') : AC agent_New_id [.int .i64 s, .int .i64 w] g n K := by
  refine ACalls.fold X0_mono ?_
  rw [← agent_New_eq]
  simp only [agent_New]
  refine New_spec (fun h n1 => ?_) (fun h la ls g1 n1 hs1 hla hls hh => ?_)
  · simp only [kExtract_t, kGet_zero, kGet_succ, kBin_neq]
    exact kSplit_t (by simp) (aRet_of (Sub.refl _) (hbad h _))
  simp only [kExtract_t, kGet_zero, kGet_succ, kBin_neq]
  refine kSplit_f (by simp) ?_
  refine ⟨rfl, by simp, ?_⟩
  simp only [kFill_nil, kAgg_a]
  intro hn
  have hs2 := (Sub.refl g1).new hn (some (.cells [ptr la 0] .exact))
  exact aRet_of (Sub.refl _) (hK h _ _ _ _ _ (hs1.trans hs2) (hs1.none hn) hla hls ⟨upd_same _ _ _, hh.mono hs2, ne_of_live hh.obj hn, ne_of_live hh.row hn⟩)
theorem rNew_spec {s w : Int} {K : Cont} (hbad : ¬ goodA s w → ∀ n', K (.tuple #[.pointer none, .int .i64 1]) g n') (hK : goodA s w → ∀ lg la ls g' n', Sub g g' → g lg = none → g la = none → g ls = none → AgH g' lg la ls (arr0 s.toNat w.toNat) → K (.tuple #[ptr lg 0, .int .i64 0]) g' n') : AC bellowsref08_New_id [.int .i64 s, .int .i64 w] g n K := by
  refine ACalls.fold X0_mono ?_
  rw [← bellowsref08_New_eq]
  simp only [bellowsref08_New]
  refine refNew_spec (fun h n1 => ?_) (fun h la ls g1 n1 hs1 hla hls hh => ?_)
  · simp only [kExtract_t, kGet_zero, kGet_succ, kBin_neq]
    exact kSplit_t (by simp) (aRet_of (Sub.refl _) (hbad h _))
  simp only [kExtract_t, kGet_zero, kGet_succ, kBin_neq]
  refine kSplit_f (by simp) ?_
  refine ⟨rfl, by simp, ?_⟩
  simp only [kFill_nil, kAgg_a]
  intro hn
  have hs2 := (Sub.refl g1).new hn (some (.cells [ptr la 0] .exact))
  exact aRet_of (Sub.refl _) (hK h _ _ _ _ _ (hs1.trans hs2) (hs1.none hn) hla hls ⟨upd_same _ _ _, hh.mono hs2, ne_of_live hh.obj hn, ne_of_live hh.row hn⟩)
theorem AgH.keep {la ls lh lq lt : Nat} {A : Arr} {g' : G} (h : AgH g lh lq lt A) (hs : Sub (hide g la ls) g') (m1 : lh ≠ la) (m2 : lh ≠ ls) (n1 : lq ≠ la) (n2 : lq ≠ ls) (n3 : lt ≠ la) (n4 : lt ≠ ls) : AgH g' lh lq lt A :=
  ⟨hs.live (hide_live m1 m2 h.obj), h.arr.keep hs n1 n2 n3 n4, h.n1, h.n2⟩
theorem out_len (A : Arr) (s : St) : (A.out s).1.length ≤ 1 := by unfold Arr.out; simp
theorem ask_len (A : Arr) (line state kind : Int) (d : Ln) : (A.ask line state kind d).1.length ≤ 1 := by
  unfold Arr.ask
  split
  · simp
  · split
    · split
      · simp
      · exact out_len _ _
    · simp
theorem load_len (A : Arr) (line word : Int) : (A.load line word).1.length ≤ 1 := by
  unfold Arr.load
  split
  · simp
  · split
    · simp
    · exact ask_len _ _ _ _ _
theorem reach_len (A : Arr) (line : Int) : (A.reach line).1.length ≤ 1 := by
  unfold Arr.reach
  split
  · simp
  · split <;> exact ask_len _ _ _ _ _
theorem store_len (A : Arr) (line word v : Int) : (A.store line word v).1.length ≤ 1 := by
  unfold Arr.store
  split
  · simp
  · split
    · exact reach_len _ _
    · simp
theorem evict_len (A : Arr) (line : Int) : (A.evict line).1.length ≤ 1 := by
  unfold Arr.evict
  split
  · simp
  · split
    · simp
    · exact out_len A (A.slot line)
theorem ansM_len (m : Ms) (s : St) (x : Int) : (ansM m s x).length ≤ 1 := by
  unfold ansM
  repeat' split
  all_goals simp
theorem hear_len (A : Arr) (m : Ms) : (A.hear m).1.length ≤ 1 := by
  unfold Arr.hear
  split
  · simp
  · split
    · simp
    · split
      · simp
      · split <;> exact ansM_len _ _ _
section
variable {a2 : Value} {xs : List Tp} {lg la ls lh lq lt : Nat} {K : Cont} {g0 : G} {i : Nat} {I : ECont}
structure GP (g0 : G) (a2 : Value) (xs : List Tp) (lg la ls lh lq lt : Nat) (K : Cont) : Prop where
  hxl : xs.length ≤ 200
  h1 : Sl encT 16 g0 a2 xs
  hla : g0 la = none
  hls : g0 ls = none
  hlq : g0 lq = none
  hlt : g0 lt = none
  n1 : lq ≠ la
  n2 : lq ≠ ls
  n3 : lt ≠ la
  n4 : lt ≠ ls
  m1 : lh ≠ la
  m2 : lh ≠ ls
  k1 : lg ≠ lq
  k2 : lg ≠ lt
  hK : ∀ n', K (.bool true) g0 n'
structure GPt (a2 : Value) (lg lh i : Nat) (t : Env) : Prop where
  t2 : t 2 = a2
  t7 : t 7 = ptr lg 0
  t9 : t 9 = ptr lh 0
  t11 : t 11 = .int .i64 i
structure GPa (g0 : G) (lg la ls lh lq lt i : Nat) (A : Arr) (g : G) : Prop where
  hs : Sub g0 g
  ha : AgH g lg la ls A
  hq : AgH g lh lq lt A
  gd : Gd A i
theorem GPa.mono {A : Arr} {g' : G} (h : GPa g0 lg la ls lh lq lt i A g) (hs : Sub g g') : GPa g0 lg la ls lh lq lt i A g' := ⟨h.hs.trans hs, h.ha.mono hs, h.hq.mono hs, h.gd⟩
def NextQ (g0 : G) (a2 : Value) (lg la ls lh lq lt i : Nat) (I : ECont) : Prop := ∀ (t : Env) (g : G) (n : Nat) (A : Arr), GPt a2 lg lh (i + 1) t → GPa g0 lg la ls lh lq lt (i + 1) A g → I t g n
theorem GP_j2 (P : GP g0 a2 xs lg la ls lh lq lt K) (hi : i < 1000) (hN : NextQ g0 a2 lg la ls lh lq lt i I) {t : Env} {A : Arr} {l12 : Nat} {x : Tp} (ht : GPt a2 lg lh i t) (ha : GPa g0 lg la ls lh lq lt (i + 1) A g)
    (h12 : t 12 = ptr l12 0) (hl : g l12 = some (.cells (encT x) .exact)) : bellowslaw08_AgentPlays_j2 AC K I t g n := by
  have hgd := ha.gd
  have hpl : ∀ {g1 g2 : G} {l : Nat} {bs : List Value} {bk : BK}, Sub g1 g2 → g1 l = some (.cells bs bk) → g2 l = g1 l := fun h1 h2 => by rw [h1.live h2, h2]
  simp only [bellowslaw08_AgentPlays_j2, ht.t7, ht.t9, h12, kNil_p, kPtr_p]
  refine ldA ha.hq (AgSlots_spec hgd.ok ha.ha (fun v1 g1 n1 hs1 h1 => ?_))
  have ha1 := ha.mono hs1
  refine ⟨hpl hs1 ha.hq.obj, refSlots_spec hgd.ok ha1.hq.arr (fun v2 g2 n2 hs2 h2 => ?_)⟩
  have ha2 := ha1.mono hs2
  refine SameS_spec (h1.mono hs2) h2 (slotsN hgd.ok) (fun n3 => ?_)
  simp only [kUn_not]
  refine kSplit_f rfl (Idle_spec hgd.ok ha2.ha (fun n4 => rIdle_spec hgd.ok hgd.wf ha2.hq (fun n5 => ?_)))
  simp only [kBin_bneq]
  refine kSplit_f (by simp) ?_
  have hl2 := hs2.live (hs1.live hl)
  refine kLd_of hl2 (v := .int .i64 x.line) rfl (kLd_of hl2 (v := .int .i64 x.line) rfl ?_)
  refine Owns_spec hgd.ok ha2.ha (fun n6 => ⟨rfl, rOwns_spec hgd.ok hgd.wf ha2.hq (fun n7 => ?_)⟩)
  simp only [kBin_bneq]
  refine kSplit_f (by simp) ?_
  simp only [bellowslaw08_AgentPlays_j3]
  show kBin .int .add (t 11) _ _
  rw [ht.t11]
  simp only [kBin_add]
  rw [wrapNat (by omega)]
  exact hN _ _ _ A ⟨ht.t2, ht.t7, ht.t9, rfl⟩ ha2
/-- behind an operation on the one and on the other -/
theorem GPa.both (P : GP g0 a2 xs lg la ls lh lq lt K) {A A' : Arr} {g1 g2 : G} {v1 v2 : Value} {ms : List Ms} (ha : GPa g0 lg la ls lh lq lt i A g) (o1 : Out g g1 lg la ls A' v1 ms) (o2 : Out g1 g2 lh lq lt A' v2 ms) (hg : Gd A' (i + 1)) : GPa g0 lg la ls lh lq lt (i + 1) A' g2 :=
  ⟨(((ha.hs.hide P.hla P.hls).trans o1.hs).hide P.hlq P.hlt).trans o2.hs, o1.ag.keep o2.hs P.k1 P.k2 (fun e => P.n1 e.symm) (fun e => P.n3 e.symm) (fun e => P.n2 e.symm) (fun e => P.n4 e.symm), o2.ag, hg⟩
theorem GPa.qkeep (P : GP g0 a2 xs lg la ls lh lq lt K) {A A' : Arr} {g1 : G} {v1 : Value} {ms : List Ms} (ha : GPa g0 lg la ls lh lq lt i A g) (o1 : Out g g1 lg la ls A' v1 ms) : AgH g1 lh lq lt A := ha.hq.keep o1.hs P.m1 P.m2 P.n1 P.n2 P.n3 P.n4
theorem GPa.slkeep {A A' : Arr} {g1 g2 : G} {v1 v2 : Value} {ms : List Ms} (ha : GPa g0 lg la ls lh lq lt i A g) (o1 : Out g g1 lg la ls A' v1 ms) (o2 : Out g1 g2 lh lq lt A' v2 ms) : Sl encM 12 g2 v1 ms :=
  o1.sl.hide (fun l hl => ⟨ne_of_live ha.hq.arr.obj (o1.fr l hl), ne_of_live ha.hq.arr.row (o1.fr l hl)⟩) o2.hs
end
theorem AgentPlays_spec {a2 : Value} {s w : Int} {xs : List Tp} (h1 : Sl encT 16 g a2 xs) {K : Cont} (hK : ∀ n', K (.bool true) g n') :
    AC bellowslaw08_AgentPlays_id [.int .i64 s, .int .i64 w, a2] g n K := by
  refine ACalls.fold X0_mono ?_
  rw [← bellowslaw08_AgentPlays_eq]
  simp only [bellowslaw08_AgentPlays]
  refine h1.len ?_
  simp only [kBin_gtr, kSplit_b, decide_eq_true_eq, decide_eq_false_iff_not]
  refine ⟨fun _ => wakes08_spec fun n' => aRet_of (Sub.refl _) (hK _), fun hlen => ?_⟩
  refine AgNew2_spec (fun hbad n2 => ?_) (fun hgood lg la ls g2 n2 hs2 hlg hla hls hh0 => ?_)
  · simp only [kExtract_t, kGet_zero, kGet_succ]
    refine rNew_spec (fun hbad n2 => ?_) (fun hgood => absurd hgood hbad)
    simp only [kExtract_t, kGet_zero, kGet_succ, kBin_neq, kBin_pnil_eql, kBin_bneq]
    refine kSplit_f (by simp) (kSplit_f rfl ?_)
    refine lfp_ind (fun m t g' n' => g' = g ∧ t 2 = a2 ∧ t 9 = .pointer none ∧ t 11 = .int .i64 0) ?_ (m := 0) ⟨rfl, rfl, rfl, rfl⟩
    rintro I m t g1 n1 hI ⟨rfl, t2, t9, t11⟩
    simp only [bellowslaw08_AgentPlays_l1, t2, t9, t11]
    refine h1.len ?_
    simp only [kBin_lss, kSplit_b, decide_eq_true_eq, decide_eq_false_iff_not, kBin_pnil_neq]
    refine ⟨fun _ => ?_, fun _ => wakes08_spec fun n' => aRet_of (Sub.refl _) (hK _)⟩
    exact ⟨fun h => (by cases h), fun _ => wakes08_spec fun n' => aRet_of (Sub.refl _) (hK _)⟩
  simp only [kExtract_t, kGet_zero, kGet_succ]
  refine rNew_spec (fun hbad => absurd hgood hbad) (fun _ lh lq lt g3 n3 hs3 hlh hlq hlt hq0 => ?_)
  simp only [kExtract_t, kGet_zero, kGet_succ, kBin_neq, kBin_p_eql, kBin_bneq]
  refine kSplit_f (by simp) (kSplit_f rfl ?_)
  have P : GP g a2 xs lg la ls lh lq lt K := ⟨by omega, h1, hla, hls, hs2.none hlq, hs2.none hlt, ne_of_live hh0.arr.obj hlq, ne_of_live hh0.arr.row hlq, ne_of_live hh0.arr.obj hlt, ne_of_live hh0.arr.row hlt,
    ne_of_live hh0.arr.obj hlh, ne_of_live hh0.arr.row hlh, fun e => ne_of_live hh0.obj hlq e.symm, fun e => ne_of_live hh0.obj hlt e.symm, hK⟩
  have a0 : GPa g lg la ls lh lq lt 0 (arr0 s.toNat w.toNat) g3 := ⟨hs2.trans hs3, hh0.mono hs3, hq0, ⟨arr0_ok (by have := hgood.1; omega) (by have := hgood.2; omega) (by have := hgood.2; omega), arr0_wf _ _, Int.le_refl _⟩⟩
  refine lfp_ind (fun m t g' n' => ∃ (i : Nat) (A : Arr), m = xs.length - i ∧ i ≤ xs.length ∧ GPt a2 lg lh i t ∧ GPa g lg la ls lh lq lt i A g') ?_ (m := xs.length)
    ⟨0, arr0 s.toNat w.toNat, by simp, by simp, ⟨rfl, rfl, rfl, rfl⟩, a0⟩
  clear a0 hq0 hh0 hs3 hs2 hlq hlt hla hls hlg hlh
  rintro I m t g3 n3 hI ⟨i, A, hm, hi, ht, ha⟩
  simp only [bellowslaw08_AgentPlays_l1, ht.t2, ht.t7, ht.t9, ht.t11]
  refine (h1.mono ha.hs).len ?_
  simp only [kBin_lss, kSplit_b, decide_eq_true_eq, decide_eq_false_iff_not, kBin_p_neq]
  refine ⟨fun hlt => ⟨fun _ => ?_, fun h => by cases h⟩, fun hge => wakes08_spec fun n' => aRet_of ha.hs (hK _)⟩
  have hlt : i < xs.length := by omega
  have hN : NextQ g a2 lg la ls lh lq lt i I := fun t g n A ht ha => hI (xs.length - (i + 1)) _ _ _ (by omega) ⟨i + 1, A, rfl, by omega, ht, ha⟩
  have he : xs[i]? = some xs[i] := List.getElem?_eq_getElem hlt
  generalize xs[i] = x at he
  refine (h1.mono ha.hs).idx encT_len he (fun l o hat => ?_)
  simp only [kPtr_p]
  refine hat.ldN (encT_len _).symm (newT (fun g6 hs6 hn6 hl12 => ?_))
  have ha6 := ha.mono hs6
  have hgd := ha.gd
  have hu := hgd.used
  have hi3 : i < 100000 := by omega
  have hu3 : A.used < 100000 := by omega
  have la1 := ne_of_live ha.ha.arr.obj hn6
  have ls1 := ne_of_live ha.ha.arr.row hn6
  have lq1 := ne_of_live ha.hq.arr.obj hn6
  have lt1 := ne_of_live ha.hq.arr.row hn6
  have liv1 : ∀ {g7 : G} {A' : Arr} {v : Value} {ms : List Ms}, Out g6 g7 lg la ls A' v ms → g7 n3 = some (.cells (encT x) .exact) := fun o => o.hs.live (hide_live la1 ls1 hl12)
  have liv2 : ∀ {g7 g8 : G} {A' : Arr} {v : Value} {ms : List Ms}, g7 n3 = some (.cells (encT x) .exact) → Out g7 g8 lh lq lt A' v ms → g8 n3 = some (.cells (encT x) .exact) := fun h o => o.hs.live (hide_live lq1 lt1 h)
  have kL : ∀ {g6 : G} {K' : Value → Prop}, g6 n3 = some (.cells (encT x) .exact) → K' (.int .i64 x.line) → kLd g6 n3 (0 + 1) K' := fun h k => kLd_of h rfl k
  have kW : ∀ {g6 : G} {K' : Value → Prop}, g6 n3 = some (.cells (encT x) .exact) → K' (.int .i64 x.word) → kLd g6 n3 (0 + 2) K' := fun h k => kLd_of h rfl k
  have kV : ∀ {g6 : G} {K' : Value → Prop}, g6 n3 = some (.cells (encT x) .exact) → K' (.int .u64 x.val) → kLd g6 n3 (0 + 3) K' := fun h k => kLd_of h rfl k
  refine kLd_of hl12 (v := .int .i64 x.kind) rfl ?_
  simp only [kBin_eql, kSplit_b, decide_eq_true_eq, decide_eq_false_iff_not]
  refine ⟨fun _ => kL hl12 (kW hl12 ?_), fun _ => ⟨fun _ => kL hl12 (kW hl12 (kV hl12 ?_)), fun _ => ⟨fun _ => ldTm hl12 ?_, fun _ => ⟨fun _ => kL hl12 ?_, fun _ => ⟨fun _ => kL hl12 (kL hl12 ?_), fun _ => ?_⟩⟩⟩⟩⟩
  · refine Load_spec hgd.ok hu3 ha6.ha (fun v7 g7 n7 o7 => ?_)
    have l7 := liv1 o7
    simp only [kExtract_t, kGet_zero, kGet_succ]
    refine kL l7 (kW l7 (rLoad_spec hgd.ok hgd.wf hu3 (ha6.qkeep P o7) (fun v8 g8 n8 o8 => ?_)))
    have l8 := liv2 l7 o8
    have hb := ha6.both P o7 o8 (hgd.load hi3 _ _)
    have hsl := ha6.slkeep o7 o8
    intro hn9
    simp only [kAgg_a]
    have hc8 := sl_cell o8.sl
    refine ⟨rfl, kStN_of (upd_same _ _ _) rfl (by simp) (by intro v hv; simp at hv; rcases hv with rfl | rfl | rfl; rfl; rfl; exact hc8) ?_⟩
    rw [splice_all (by rfl)]
    have hs9 := ((Sub.refl g8).new hn9 (some (.cells [.int .u64 0, .bool false, .slice none 0 0] .exact))).upd_fresh (some (.cells [.int .u64 (A.loadV x.line x.word), .bool (A.loadHit x.line x.word), v8] .exact)) hn9
    have hl9 := upd_same (upd g8 n8 (some (.cells [.int .u64 0, .bool false, .slice none 0 0] .exact))) n8 (some (.cells [.int .u64 (A.loadV x.line x.word), .bool (A.loadHit x.line x.word), v8] .exact))
    generalize upd (upd g8 n8 (some (.cells [.int .u64 0, .bool false, .slice none 0 0] .exact))) n8 (some (.cells [.int .u64 (A.loadV x.line x.word), .bool (A.loadHit x.line x.word), v8] .exact)) = g9 at *
    refine kLd_of hl9 (v := .int .u64 (A.loadV x.line x.word)) rfl ?_
    simp only [kBin_neq]
    refine kSplit_f (by simp) (kLd_of hl9 (v := .bool (A.loadHit x.line x.word)) rfl ?_)
    simp only [kBin_bneq]
    refine kSplit_f (by simp) (kLd_of hl9 (v := v8) rfl (Msgs_spec (hsl.mono hs9) (o8.sl.mono hs9) (load_len _ _ _) (fun n10 => ?_)))
    simp only [kUn_not]
    refine kSplit_f rfl ?_
    exact GP_j2 P (by omega) hN (l12 := n3) (x := x) ⟨ht.t2, ht.t7, ht.t9, ht.t11⟩ (hb.mono hs9) rfl (hs9.live l8)
  · refine Store_spec hgd.ok hu3 ha6.ha (fun v7 g7 n7 o7 => ?_)
    have l7 := liv1 o7
    simp only [kExtract_t, kGet_zero, kGet_succ]
    refine kL l7 (kW l7 (kV l7 (rStore_spec hgd.ok hgd.wf hu3 (ha6.qkeep P o7) (fun v8 g8 n8 o8 => ?_))))
    have l8 := liv2 l7 o8
    have hb := ha6.both P o7 o8 (hgd.store hi3 _ _ _)
    have hsl := ha6.slkeep o7 o8
    simp only [kExtract_t, kGet_zero, kGet_succ, kBin_bneq]
    refine kSplit_f (by simp) (Msgs_spec hsl o8.sl (store_len _ _ _ _) (fun n10 => ?_))
    simp only [kUn_not]
    refine kSplit_f rfl ?_
    exact GP_j2 P (by omega) hN (l12 := n3) (x := x) ⟨ht.t2, ht.t7, ht.t9, ht.t11⟩ hb rfl l8
  · refine Hear_spec hgd.ok hgd.wf hu3 ha6.ha (fun v7 g7 n7 o7 => ?_)
    have l7 := liv1 o7
    simp only [kExtract_t, kGet_zero, kGet_succ]
    refine ldTm l7 (rHear_spec hgd.ok hgd.wf hu3 (ha6.qkeep P o7) (fun v8 g8 n8 o8 => ?_))
    have l8 := liv2 l7 o8
    have hb := ha6.both P o7 o8 (hgd.hear hi3 _)
    have hsl := ha6.slkeep o7 o8
    simp only [kExtract_t, kGet_zero, kGet_succ]
    refine Msgs_spec hsl o8.sl (hear_len _ _) (fun n10 => ?_)
    simp only [kUn_not, kBin_neq]
    refine kSplit_f rfl (kSplit_f (by simp) ?_)
    exact GP_j2 P (by omega) hN (l12 := n3) (x := x) ⟨ht.t2, ht.t7, ht.t9, ht.t11⟩ hb rfl l8
  · refine Evict_spec hgd.ok hu3 ha6.ha (fun v7 g7 n7 o7 => ?_)
    have l7 := liv1 o7
    simp only [kExtract_t, kGet_zero, kGet_succ]
    refine kL l7 (rEvict_spec hgd.ok hgd.wf hu3 (ha6.qkeep P o7) (fun v8 g8 n8 o8 => ?_))
    have l8 := liv2 l7 o8
    have hb := ha6.both P o7 o8 (hgd.evict hi3 _)
    have hsl := ha6.slkeep o7 o8
    simp only [kExtract_t, kGet_zero, kGet_succ]
    refine Msgs_spec hsl o8.sl (evict_len _ _) (fun n10 => ?_)
    simp only [kUn_not, kBin_neq]
    refine kSplit_f rfl (kSplit_f (by simp) ?_)
    exact GP_j2 P (by omega) hN (l12 := n3) (x := x) ⟨ht.t2, ht.t7, ht.t9, ht.t11⟩ hb rfl l8
  · refine Reach_spec hgd.ok hu3 ha6.ha (fun v7 g7 n7 o7 => ?_)
    have l7 := liv1 o7
    refine ⟨by rw [l7, hl12], rReach_spec hgd.ok hgd.wf hu3 (ha6.qkeep P o7) (fun v8 g8 n8 o8 => ?_)⟩
    have l8 := liv2 l7 o8
    have hb := ha6.both P o7 o8 (hgd.reach hi3 _)
    have hsl := ha6.slkeep o7 o8
    refine Msgs_spec hsl o8.sl (reach_len _ _) (fun n10 => ?_)
    simp only [kUn_not]
    refine kSplit_f rfl ?_
    exact GP_j2 P (by omega) hN (l12 := n3) (x := x) ⟨ht.t2, ht.t7, ht.t9, ht.t11⟩ hb rfl l8
  · exact GP_j2 P (by omega) hN (l12 := n3) (x := x) ⟨ht.t2, ht.t7, ht.t9, ht.t11⟩ ⟨ha6.hs, ha6.ha, ha6.hq, hgd.le (by omega)⟩ rfl hl12
end Go.Proofs.Ytncodeibkmekmab.Gen
