import Derived.Test.YtecojalpbppfeaaGreatSpecUndoCodeA
/- What the functions come to. -/
set_option linter.all false
set_option linter.deprecated false
namespace Go.Proofs.YtecojalpbppfeaaGreat.Gen
open Go Go.Proofs.YtecojalpbppfeaaGreat.Abs Go.RowKit
variable {g : G} {n : Nat}
theorem Words_spec {v w : Value} {xs ys : List Int} (hv : Sl encW 1 g v xs) (hw : Sl encW 1 g w ys) (hlen : xs.length < 1000000) {K : Cont}
    (hK : ∀ n', K (.bool (decide (xs = ys))) g n') : AC bellowskeep_Words_id [v, w] g n K := by
  refine ACalls.fold X0_mono ?_
  rw [← bellowskeep_Words_eq]
  simp only [bellowskeep_Words]
  refine hv.len (hw.len ?_)
  simp only [kBin_neq, kSplit_b, decide_eq_true_eq, decide_eq_false_iff_not]
  refine ⟨fun h => aRet_of (Sub.refl _) ?_, fun h => ?_⟩
  · have : xs ≠ ys := fun e => h (by rw [e])
    simpa [this] using hK n
  have hl : xs.length = ys.length := by omega
  refine lfp_ind (fun m t g' n' => g' = g ∧ ∃ i : Nat, m = xs.length - i ∧ i ≤ xs.length ∧ t 0 = v ∧ t 1 = w ∧ t 5 = .int .i64 i ∧ xs.take i = ys.take i) ?_
    (m := xs.length) ⟨rfl, 0, by simp, by simp, rfl, rfl, rfl, rfl⟩
  rintro I m t g1 n1 hI ⟨rfl, i, hm, hi, h0, h1, h5, hp⟩
  simp only [bellowskeep_Words_l1, h0, h1, h5]
  refine hv.len ?_
  simp only [kBin_lss, kSplit_b, decide_eq_true_eq, decide_eq_false_iff_not]
  refine ⟨fun hlt => ?_, fun hge => ?_⟩
  · have hlt : i < xs.length := by omega
    refine hv.idx encW_len (List.getElem?_eq_getElem hlt) (fun l o ha => ?_)
    simp only [kPtr_p]
    refine ha.ld (i := 0) rfl ?_
    refine hw.idx encW_len (List.getElem?_eq_getElem (hl ▸ hlt)) (fun l o ha => ?_)
    simp only [kPtr_p]
    refine ha.ld (i := 0) rfl ?_
    simp only [kBin_neq, kSplit_b, decide_eq_true_eq, decide_eq_false_iff_not, kBin_add]
    refine ⟨fun h => aRet_of (Sub.refl _) ?_, fun h => ?_⟩
    · have : xs ≠ ys := fun e => h (by subst e; rfl)
      simpa [this] using hK n1
    · rw [wrapNat (by omega)]
      refine hI (xs.length - (i + 1)) _ _ _ (by omega) ⟨rfl, i + 1, rfl, by omega, h0, h1, rfl, ?_⟩
      rw [List.take_add_one, List.take_add_one, List.getElem?_eq_getElem hlt, List.getElem?_eq_getElem (hl ▸ hlt), hp]
      have : xs[i] = ys[i] := Classical.byContradiction h
      simp [this]
  · have : i = xs.length := by omega
    subst this
    rw [List.take_length, hl, List.take_length] at hp
    exact aRet_of (Sub.refl _) (by simpa [hp] using hK n1)


def encBl (b : Bool) : List Value := [.bool b]
theorem encBl_len (b : Bool) : (encBl b).length = 1 := rfl
theorem Upd.subOf {g0 g g' : G} {a b : List Nat} (hs : Sub g0 g) (ha : ∀ l ∈ a, g0 l = none) (u : Upd a b g g') : Sub g0 g' ∧ ∀ l ∈ b, g0 l = none := by
  refine ⟨fun l => ?_, fun l hl => ?_⟩
  · cases h : g0 l with
    | none => exact .inl rfl
    | some x => exact .inr (u.1 l x (hs.live h) (fun hm => by rw [ha l hm] at h; cases h)).symm
  · rcases u.2 l hl with h | h
    · exact ha l h
    · exact hs.none h
def B0 : Bd := ⟨[], [], false⟩
theorem B0_ok : B0.ok := ⟨by simp [B0], by simp [B0]⟩
theorem bd_new (hn : g n = none) : BdH (upd g n (some (.cells [(.slice none 0 0), (.slice none 0 0), (.slice none 0 0), (.bool false)] .exact))) [n] n B0 :=
  ⟨_, _, _, ⟨upd_same _ _ _, OwnS.nil, OwnS.nil, OwnS.nil, ⟨by simp [ObjF, blks, blkOf], by simp [blks, blkOf]⟩⟩, by simp [ObjF, blks, blkOf]⟩
theorem rb_new (hn : g n = none) : RbH (upd g n (some (.cells [(.slice none 0 0), (.slice none 0 0), (.bool false)] .exact))) [n] n B0 :=
  ⟨_, _, ⟨upd_same _ _ _, OwnS.nil, OwnS.nil, ⟨by simp [ObjF, blks, blkOf], by simp [blks, blkOf]⟩⟩, by simp [ObjF, blks, blkOf]⟩
theorem Len_spec {fp : List Nat} {lb : Nat} {B : Bd} (hB : BdH g fp lb B) {K : Cont} (hK : ∀ n', K (.int .i64 B.items.length) g n') : AC emit_Builder_Len_id [ptr lb 0] g n K := by
  refine ACalls.fold X0_mono ?_
  rw [← emit_Builder_Len_eq]
  simp only [emit_Builder_Len, kBin_p_eql, kNil_p, kPtr_p, Nat.zero_add]
  obtain ⟨sl, sm, sj, h, rfl⟩ := hB
  refine kSplit_f rfl (kLd_of h.obj rfl (h.hl.sl.len (aRet_of (Sub.refl _) ?_)))
  rw [List.length_map]; exact hK _
theorem done_len (B : Bd) (hb : B.items.length ≤ 100000) : B.done.1.length ≤ 100000 := by
  unfold Bd.done
  split
  · simp
  · split
    · simp
    · split
      · simp
      · rename_i h
        split
        · simp
        · show (words (B.items.map B.fix)).1.length ≤ 100000
          rw [words_len _ (by simpa using h), List.length_map]; exact hb
end Go.Proofs.YtecojalpbppfeaaGreat.Gen

namespace Go.Proofs.YtecojalpbppfeaaGreat.Gen
open Go Go.Proofs.YtecojalpbppfeaaGreat.Abs Go.RowKit
variable {g : G} {n : Nat}
/-! ## addresses -/
def addrA (a b : Int) : Int := if 0 ≤ a ∧ a ≤ 63 ∧ 0 ≤ b ∧ b ≤ 7 then 64 * a + 8 * b else 0
def countH (h : Hp) : Int := if GoodH h then addrA h.vol 0 else 0
def entryH (h : Hp) : Int := if GoodH h then addrA (h.vol + 1) 0 else 0
def wordH (h : Hp) (w : Int) : Int := if GoodH h ∧ 0 ≤ w ∧ w < 8 * h.hl then addrA (h.vol + 1 + h.log + w / 8) (w % 8) else 0
theorem wU {x : Int} (h0 : 0 ≤ x) (h1 : x < 1000000) : IntKind.u64.wrap x = x := by
  show x % ((2 ^ 64 : Nat) : Int) = x
  exact Int.emod_eq_of_lt h0 (by omega)
theorem wis_spec {x : Int} {K : Cont} (hK : ∀ n', K (.bool (decide (0 ≤ x ∧ x ≤ 7))) g n') : AC word_is_id [.int .i64 x] g n K := by
  refine ACalls.fold X0_mono ?_
  rw [← word_is_eq]
  simp only [word_is]
  repeat' first
    | (refine kSplit_d (fun _ => ?_) (fun _ => ?_))
    | (refine aRet_of (Sub.refl _) (leafB hK ?_))
    | (simp only [kBin_geq, kBin_leq, kBin_lss, kBin_gtr, kBin_eql, kBin_neq])
  all_goals (rw [Bool.eq_iff_iff]; simp only [decide_eq_true_eq, Bool.false_eq_true, false_iff, true_iff]; omega)
theorem Addr_spec {a b : Int} {K : Cont} (hK : ∀ n', K (.int .u64 (addrA a b)) g n') : AC word_Addr_id [.int .i64 a, .int .i64 b] g n K := by
  refine ACalls.fold X0_mono ?_
  rw [← word_Addr_eq]
  simp only [word_Addr]
  have no : ¬ (0 ≤ a ∧ a ≤ 63 ∧ 0 ≤ b ∧ b ≤ 7) → ∀ n', aRet K (.int .u64 0) g n' := fun h n' => aRet_of (Sub.refl _) (by have := hK n'; unfold addrA at this; rw [if_neg h] at this; exact this)
  rw [kBin_lss]
  refine kSplit_d (fun h => no (by omega) _) (fun h1 => ?_)
  rw [kBin_geq]
  refine kSplit_d (fun h => no (by omega) _) (fun h2 => ?_)
  refine wis_spec fun n' => ?_
  rw [kUn_not]
  by_cases hb : 0 ≤ b ∧ b ≤ 7
  · refine kSplit_f (by simp [hb]) ?_
    rw [kConv_i, wU (by omega) (by omega), kBin_mul, wU (by omega) (by omega), kConv_i, wU (by omega) (by omega), kBin_mul, wU (by omega) (by omega), kBin_add, wU (by omega) (by omega)]
    have := hK n'
    unfold addrA at this; rw [if_pos (by omega), Int.mul_comm, Int.mul_comm 8] at this
    exact aRet_of (Sub.refl _) this
  · exact kSplit_t (by simp; omega) (no (by omega) _)
theorem rAddr_spec {a b : Int} {K : Cont} (hK : ∀ n', K (.int .u64 (addrA a b)) g n') : AC bellowsref01_Addr_id [.int .i64 a, .int .i64 b] g n K := by
  refine ACalls.fold X0_mono ?_
  rw [← bellowsref01_Addr_eq]
  simp only [bellowsref01_Addr]
  have no : ¬ (0 ≤ a ∧ a ≤ 63 ∧ 0 ≤ b ∧ b ≤ 7) → ∀ n', aRet K (.int .u64 0) g n' := fun h n' => aRet_of (Sub.refl _) (by have := hK n'; unfold addrA at this; rw [if_neg h] at this; exact this)
  rw [kBin_lss]
  refine kSplit_d (fun h => no (by omega) _) (fun h1 => ?_)
  rw [kBin_gtr]
  refine kSplit_d (fun h => no (by omega) _) (fun h2 => ?_)
  rw [kBin_lss]
  refine kSplit_d (fun h => no (by omega) _) (fun h3 => ?_)
  rw [kBin_gtr]
  refine kSplit_d (fun h => no (by omega) _) (fun h4 => ?_)
  rw [kBin_mul, wrap64_of (by omega) (by omega), kBin_mul, wrap64_of (by omega) (by omega), kBin_add, wrap64_of (by omega) (by omega), kConv_i, wU (by omega) (by omega)]
  have := hK n
  unfold addrA at this; rw [if_pos (by omega)] at this
  exact aRet_of (Sub.refl _) this
theorem Count_spec {h : Hp} {K : Cont} (hK : ∀ g' n', Sub g g' → K (.int .u64 (countH h)) g' n') : AC layout_Count_id [.agg (encH h).toArray] g n K := by
  refine ACalls.fold X0_mono ?_
  rw [← layout_Count_eq]
  simp only [layout_Count, kAgg_a]
  intro hn
  have h1s := (Sub.refl g).new hn (some (.cells (encH h) .exact))
  refine ldH (upd_same _ _ _) (of_spec fun lp g2 n2 hs hp => ?_)
  simp only [kNil_p, kPtr_p]
  refine kLd_of hp rfl ?_
  rw [kUn_not]
  have ss := h1s.trans hs
  have hK2 := hK g2
  by_cases hG : GoodH h
  · refine kSplit_f (by simp [hG]) (kLd_of hp rfl ?_)
    obtain ⟨⟨_, _, _, h4, h5, h6, _⟩, _⟩ := id hG
    rw [wrap64_of (by omega) (by omega), kBin_sub, wrap64_of (by omega) (by omega)]
    refine Addr_spec fun n' => aRet_of (Sub.refl _) ?_
    have := hK2 n' ss
    unfold countH at this; rw [if_pos hG] at this
    rw [show h.vol + 1 - 1 = h.vol by omega]; exact this
  · refine kSplit_t (by simp [hG]) (aRet_of (Sub.refl _) ?_)
    have := hK2 n2 ss
    unfold countH at this; rw [if_neg hG] at this; exact this
theorem rCount_spec {h : Hp} {K : Cont} (hK : ∀ g' n', Sub g g' → K (.int .u64 (countH h)) g' n') : AC bellowsref22_Count_id [.agg (encH h).toArray] g n K := by
  refine ACalls.fold X0_mono ?_
  rw [← bellowsref22_Count_eq]
  simp only [bellowsref22_Count, kAgg_a]
  intro hn
  have h1s := (Sub.refl g).new hn (some (.cells (encH h) .exact))
  have hb1 : upd g n (some (.cells (encH h) .exact)) n = some (.cells (encH h) .exact) := upd_same _ _ _
  generalize upd g n (some (.cells (encH h) .exact)) = g1 at h1s hb1
  refine ldH hb1 (rGoodH_spec fun g2 n2 hs => ?_)
  rw [kUn_not]
  have ss := h1s.trans hs
  by_cases hG : GoodH h
  · refine kSplit_f (by simp [hG]) (kLd_of (hs.live hb1) rfl (rAddr_spec fun n' => aRet_of (Sub.refl _) ?_))
    have := hK g2 n' ss
    unfold countH at this; rw [if_pos hG] at this; exact this
  · refine kSplit_t (by simp [hG]) (aRet_of (Sub.refl _) ?_)
    have := hK g2 n2 ss
    unfold countH at this; rw [if_neg hG] at this; exact this
theorem Entry_spec {h : Hp} {K : Cont} (hK : ∀ g' n', Sub g g' → K (.int .u64 (entryH h)) g' n') : AC layout_Entry_id [.agg (encH h).toArray, .int .i64 0] g n K := by
  refine ACalls.fold X0_mono ?_
  rw [← layout_Entry_eq]
  simp only [layout_Entry, kAgg_a]
  intro hn
  have h1s := (Sub.refl g).new hn (some (.cells (encH h) .exact))
  refine ldH (upd_same _ _ _) (of_spec fun lp g2 n2 hs hp => ?_)
  simp only [kNil_p, kPtr_p]
  refine kLd_of hp rfl ?_
  rw [kUn_not]
  have ss := h1s.trans hs
  have hK2 := hK g2
  by_cases hG : GoodH h
  · refine kSplit_f (by simp [hG]) ?_
    obtain ⟨⟨_, _, _, h4, h5, h6, _⟩, h7, h8, _⟩ := id hG
    rw [kBin_lss]
    refine kSplit_f (by simp) (kLd_of hp rfl ?_)
    rw [wrap64_of (by omega) (by omega), kBin_geq]
    refine kSplit_f (by simp; omega) (kLd_of hp rfl ?_)
    rw [wrap64_of (by omega) (by omega), kBin_quo]
    refine ⟨by decide, ?_⟩
    rw [show IntKind.i64.wrap ((0 : Int).tdiv 4) = 0 from rfl, kBin_add, wrap64_of (by omega) (by omega), kBin_rem]
    refine ⟨by decide, ?_⟩
    rw [show (0 : Int).tmod 4 = 0 from rfl, kBin_mul, show IntKind.i64.wrap ((0 : Int) * 2) = 0 from rfl]
    refine Addr_spec fun n' => aRet_of (Sub.refl _) ?_
    have := hK2 n' ss
    unfold entryH at this; rw [if_pos hG] at this
    rw [Int.add_zero]; exact this
  · refine kSplit_t (by simp [hG]) (aRet_of (Sub.refl _) ?_)
    have := hK2 n2 ss
    unfold entryH at this; rw [if_neg hG] at this; exact this
theorem rEntry_spec {h : Hp} {K : Cont} (hK : ∀ g' n', Sub g g' → K (.int .u64 (entryH h)) g' n') : AC bellowsref22_Entry_id [.agg (encH h).toArray, .int .i64 0] g n K := by
  refine ACalls.fold X0_mono ?_
  rw [← bellowsref22_Entry_eq]
  simp only [bellowsref22_Entry, kAgg_a]
  intro hn
  have h1s := (Sub.refl g).new hn (some (.cells (encH h) .exact))
  have hb1 : upd g n (some (.cells (encH h) .exact)) n = some (.cells (encH h) .exact) := upd_same _ _ _
  generalize upd g n (some (.cells (encH h) .exact)) = g1 at h1s hb1
  rw [kBin_lss]
  refine kSplit_f (by simp) (ldH hb1 (rRoom_spec fun g2 n2 hs => ?_))
  have ss := h1s.trans hs
  rw [kBin_geq]
  by_cases hG : GoodH h
  · obtain ⟨⟨_, _, _, h4, h5, h6, _⟩, h7, h8, _⟩ := id hG
    refine kSplit_f (by unfold roomH; rw [if_pos hG]; simp; omega) (kLd_of (hs.live hb1) rfl ?_)
    rw [kBin_add, wrap64_of (by omega) (by omega), kBin_quo]
    refine ⟨by decide, ?_⟩
    rw [show IntKind.i64.wrap ((0 : Int).tdiv 4) = 0 from rfl, kBin_add, wrap64_of (by omega) (by omega), kBin_rem]
    refine ⟨by decide, ?_⟩
    rw [show (0 : Int).tmod 4 = 0 from rfl, kBin_mul, show IntKind.i64.wrap (2 * (0 : Int)) = 0 from rfl]
    refine rAddr_spec fun n' => aRet_of (Sub.refl _) ?_
    have := hK g2 n' ss
    unfold entryH at this; rw [if_pos hG] at this
    rw [Int.add_zero]; exact this
  · refine kSplit_t (by unfold roomH; rw [if_neg hG]; simp) (aRet_of (Sub.refl _) ?_)
    have := hK g2 n2 ss
    unfold entryH at this; rw [if_neg hG] at this; exact this
theorem div8 {w : Int} (h0 : 0 ≤ w) (h1 : w < 1000000) : IntKind.i64.wrap (w.tdiv 8) = w / 8 ∧ w.tmod 8 = w % 8 := by
  rw [Int.tdiv_eq_ediv_of_nonneg h0, Int.tmod_eq_emod_of_nonneg h0]
  exact ⟨wrap64_of (by omega) (by omega), rfl⟩
theorem Word_spec {h : Hp} {w : Int} {K : Cont} (hK : ∀ g' n', Sub g g' → K (.int .u64 (wordH h w)) g' n') : AC layout_Word_id [.agg (encH h).toArray, .int .i64 w] g n K := by
  refine ACalls.fold X0_mono ?_
  rw [← layout_Word_eq]
  simp only [layout_Word, kAgg_a]
  intro hn
  have h1s := (Sub.refl g).new hn (some (.cells (encH h) .exact))
  refine ldH (upd_same _ _ _) (of_spec fun lp g2 n2 hs hp => ?_)
  simp only [kNil_p, kPtr_p]
  refine kLd_of hp rfl ?_
  rw [kUn_not]
  have ss := h1s.trans hs
  have no : ¬ (GoodH h ∧ 0 ≤ w ∧ w < 8 * h.hl) → ∀ n', aRet K (.int .u64 0) g2 n' := fun hh n' => aRet_of (Sub.refl _) (by have := hK g2 n' ss; unfold wordH at this; rw [if_neg hh] at this; exact this)
  by_cases hG : GoodH h
  · refine kSplit_f (by simp [hG]) ?_
    obtain ⟨⟨_, _, _, h4, h5, h6, _⟩, h7, h8, h9, h10, h11⟩ := id hG
    rw [kBin_lss]
    refine kSplit_d (fun hh => no (by omega) _) (fun h0 => kLd_of hp rfl ?_)
    rw [kBin_mul, wrap64_of (by omega) (by omega), kBin_geq]
    refine kSplit_d (fun hh => no (by omega) _) (fun h1 => kLd_of hp rfl ?_)
    obtain ⟨e1, e2⟩ := div8 (w := w) (by omega) (by omega)
    rw [@wrap64_of (h.vol + 1) (by omega) (by omega), @wrap64_of (h.vol + 1 + h.log) (by omega) (by omega), kBin_quo]
    refine ⟨by decide, ?_⟩
    rw [e1, kBin_add, wrap64_of (by omega) (by omega), kBin_rem]
    refine ⟨by decide, ?_⟩
    rw [e2]
    refine Addr_spec fun n' => aRet_of (Sub.refl _) ?_
    have := hK g2 n' ss
    unfold wordH at this; rw [if_pos ⟨hG, by omega, by omega⟩] at this
    exact this
  · exact kSplit_t (by simp [hG]) (no (fun hh => hG hh.1) _)
theorem rFirst_spec {h : Hp} (hG : GoodH h) {K : Cont} (hK : ∀ g' n', Sub g g' → K (.int .i64 (h.vol + 1 + h.log)) g' n') : AC bellowsref22_First_id [.agg (encH h).toArray] g n K := by
  refine ACalls.fold X0_mono ?_
  rw [← bellowsref22_First_eq]
  simp only [bellowsref22_First, kAgg_a]
  intro hn
  have h1s := (Sub.refl g).new hn (some (.cells (encH h) .exact))
  obtain ⟨⟨_, _, _, h4, h5, h6, _⟩, h7, h8, h9, h10, h11⟩ := id hG
  refine kLd_of (upd_same _ _ _) rfl ?_
  rw [kBin_add, wrap64_of (by omega) (by omega)]
  refine kLd_of (upd_same _ _ _) rfl ?_
  rw [kBin_add, wrap64_of (by omega) (by omega)]
  exact aRet_of (Sub.refl _) (hK _ _ h1s)
theorem rWord_spec {h : Hp} {w : Int} {K : Cont} (hK : ∀ g' n', Sub g g' → K (.int .u64 (wordH h w)) g' n') : AC bellowsref22_Word_id [.agg (encH h).toArray, .int .i64 w] g n K := by
  refine ACalls.fold X0_mono ?_
  rw [← bellowsref22_Word_eq]
  simp only [bellowsref22_Word, kAgg_a]
  intro hn
  have h1s := (Sub.refl g).new hn (some (.cells (encH h) .exact))
  have hb1 : upd g n (some (.cells (encH h) .exact)) n = some (.cells (encH h) .exact) := upd_same _ _ _
  generalize upd g n (some (.cells (encH h) .exact)) = g1 at h1s hb1
  rw [kBin_lss]
  have no : ¬ (GoodH h ∧ 0 ≤ w ∧ w < 8 * h.hl) → ∀ g2 n', Sub g g2 → aRet K (.int .u64 0) g2 n' := fun hh g2 n' ss => aRet_of (Sub.refl _) (by have := hK g2 n' ss; unfold wordH at this; rw [if_neg hh] at this; exact this)
  refine kSplit_d (fun hh => no (by omega) _ _ h1s) (fun h0 => ldH hb1 (rWds_spec fun g2 n2 hs => ?_))
  have ss := h1s.trans hs
  rw [kBin_geq]
  by_cases hG : GoodH h
  · obtain ⟨⟨_, _, _, h4, h5, h6, _⟩, h7, h8, h9, h10, h11⟩ := id hG
    have ew : wordsH h = 8 * h.hl := by unfold wordsH; rw [if_pos hG]
    rw [ew]
    refine kSplit_d (fun hh => no (by omega) _ _ ss) (fun h1 => ldH (hs.live hb1) (rFirst_spec hG fun g3 n3 s3 => ?_))
    obtain ⟨e1, e2⟩ := div8 (w := w) (by omega) (by omega)
    rw [kBin_quo]
    refine ⟨by decide, ?_⟩
    rw [e1, kBin_add, wrap64_of (by omega) (by omega), kBin_rem]
    refine ⟨by decide, ?_⟩
    rw [e2]
    refine rAddr_spec fun n' => aRet_of (Sub.refl _) ?_
    have := hK g3 n' (ss.trans s3)
    unfold wordH at this; rw [if_pos ⟨hG, by omega, by omega⟩] at this
    exact this
  · refine kSplit_t (by unfold wordsH; rw [if_neg hG]; simp; omega) (no (fun hh => hG hh.1) _ _ ss)
end Go.Proofs.YtecojalpbppfeaaGreat.Gen

namespace Go.Proofs.YtecojalpbppfeaaGreat.Gen
open Go Go.Proofs.YtecojalpbppfeaaGreat.Abs Go.RowKit
variable {g : G} {n : Nat}
/-! ## a builder that grows, beside a heap in a block -/
def Bk (k m : Nat) (B : Bd) : Prop := B.ok ∧ B.items.length ≤ k ∧ B.marks.length ≤ m
structure St (H : G → List Nat → Nat → Bd → Prop) (g0 : G) (fp0 : List Nat) (lb l5 : Nat) (h : Hp) (g : G) (fp : List Nat) (B : Bd) (k m : Nat) : Prop where
  b : H g fp lb B
  u : Upd fp0 fp g0 g
  hb : g l5 = some (.cells (encH h) .exact)
  hn : l5 ∉ fp
  bk : Bk k m B
variable {g0 : G} {fp0 fp fp' : List Nat} {lb l5 k m : Nat} {h : Hp} {B B' : Bd}
theorem St.sub {g' : G} (s : St BdH g0 fp0 lb l5 h g fp B k m) (hs : Sub g g') : St BdH g0 fp0 lb l5 h g' fp B k m :=
  ⟨s.b.mono hs, s.u.trans (Upd.sub hs), hs.live s.hb, s.hn, s.bk⟩
theorem St.rsub {g' : G} (s : St RbH g0 fp0 lb l5 h g fp B k m) (hs : Sub g g') : St RbH g0 fp0 lb l5 h g' fp B k m :=
  ⟨s.b.mono hs, s.u.trans (Upd.sub hs), hs.live s.hb, s.hn, s.bk⟩
theorem St.move {H : G → List Nat → Nat → Bd → Prop} {g' : G} {k' m' : Nat} (s : St H g0 fp0 lb l5 h g fp B k m) (h' : H g' fp' lb B') (u : Upd fp fp' g g') (hk : Bk k' m' B') : St H g0 fp0 lb l5 h g' fp' B' k' m' := by
  refine ⟨h', s.u.trans u, u.1 _ _ s.hb s.hn, fun hm => ?_, hk⟩
  rcases u.2 _ hm with h1 | h1
  · exact s.hn h1
  · rw [s.hb] at h1; cases h1
theorem Bk.add {ys : List Ins} (hb : Bk k m B) (hl : ∀ i ∈ ys, 0 ≤ i.op ∧ i.op ≤ 22) (hk : k + ys.length ≤ 1000000) : Bk (k + ys.length) m (B.add ys) :=
  ⟨Bd.ok_add hb.1 hl (by have := hb.2.1; omega), by rw [(Bd.add_n _ _).1]; have := hb.2.1; omega, by rw [(Bd.add_n _ _).2]; exact hb.2.2⟩
theorem Bk.mark (hb : Bk k m B) : Bk k (m + 1) B.mark := ⟨Bd.ok_mark hb.1, hb.2.1, by simp [Bd.mark]; exact hb.2.2⟩
theorem Bk.here (hb : Bk k m B) (x : Int) : Bk k m (B.here x) := ⟨Bd.ok_here hb.1 x, by rw [(Bd.here_n _ _).1]; exact hb.2.1, by rw [(Bd.here_n _ _).2]; exact hb.2.2⟩
theorem Bk.jump (hb : Bk k m B) (i : Ins) (x : Int) (hk : k < 1000000) : Bk (k + 1) m (B.jump i x) :=
  ⟨Bd.ok_jump hb.1 x (by have := hb.2.1; omega), Nat.le_trans (Bd.jump_n _ _ _).1 (by have := hb.2.1; omega), by rw [(Bd.jump_n _ _ _).2]; exact hb.2.2⟩
theorem Bk.up {k' m' : Nat} (hb : Bk k m B) (h1 : k ≤ k') (h2 : m ≤ m') : Bk k' m' B := ⟨hb.1, Nat.le_trans hb.2.1 h1, Nat.le_trans hb.2.2 h2⟩
theorem Bd.add_add (B : Bd) (a b : List Ins) : (B.add a).add b = B.add (a ++ b) := by simp [Bd.add]
theorem jmps_le (B : Bd) : (jmps 0 B.items).length ≤ B.items.length := by
  have : ∀ (k : Nat) (its : List (Ins × Int)), (jmps k its).length ≤ its.length := by
    intro k its
    induction its generalizing k with
    | nil => simp [jmps]
    | cons p r ih =>
      obtain ⟨i, to⟩ := p
      simp only [jmps]
      have := ih (k + 1)
      split <;> simp <;> omega
  exact this 0 _

theorem pAdd (s : St BdH g0 fp0 lb l5 h g fp B k m) {x : Value} {ys : List Ins} (hx : Sl encI 5 g x ys) (h0 : 0 < ys.length) (hl : ∀ i ∈ ys, 0 ≤ i.op ∧ i.op ≤ 22) (hk : k + ys.length ≤ 1000000) {K : Cont}
    (hK : ∀ v g' n' fp', St BdH g0 fp0 lb l5 h g' fp' (B.add ys) (k + ys.length) m → K v g' n') : AC emit_Builder_Add_id [ptr lb 0, x] g n K :=
  Add_spec s.b hx h0 (by have := s.bk.2.1; omega) fun g' n' fp' hB u => hK _ g' n' fp' (s.move hB u (s.bk.add hl hk))
theorem pMark (s : St BdH g0 fp0 lb l5 h g fp B k m) (hm : m ≤ 1000000) {K : Cont}
    (hK : ∀ g' n' fp', St BdH g0 fp0 lb l5 h g' fp' B.mark k (m + 1) → K (.int .i64 B.marks.length) g' n') : AC emit_Builder_Mark_id [ptr lb 0] g n K :=
  Mark_spec s.b (by have := s.bk.2.2; omega) fun g' n' fp' hB u => hK g' n' fp' (s.move hB u s.bk.mark)
theorem pHere (s : St BdH g0 fp0 lb l5 h g fp B k m) {x : Int} {K : Cont}
    (hK : ∀ v g' n' fp', St BdH g0 fp0 lb l5 h g' fp' (B.here x) k m → K v g' n') : AC emit_Builder_Here_id [ptr lb 0, .int .i64 x] g n K :=
  Here_spec s.b fun g' n' fp' hB u => hK _ g' n' fp' (s.move hB u (s.bk.here x))
theorem pJump (s : St BdH g0 fp0 lb l5 h g fp B k m) {i : Ins} {x : Int} (hk : k < 1000000) {K : Cont}
    (hK : ∀ v g' n' fp', St BdH g0 fp0 lb l5 h g' fp' (B.jump i x) (k + 1) m → K v g' n') : AC emit_Builder_Jump_id [ptr lb 0, .agg (encI i).toArray, .int .i64 x] g n K :=
  Jump_spec s.b (by have := s.bk.2.1; omega) (Nat.le_trans (jmps_le B) (by have := s.bk.2.1; omega)) fun g' n' fp' hB u => hK _ g' n' fp' (s.move hB u (s.bk.jump i x hk))
theorem qAdd (s : St RbH g0 fp0 lb l5 h g fp B k m) {x : Value} {ys : List Ins} (hx : Sl encI 5 g x ys) (h0 : 0 < ys.length) (hl : ∀ i ∈ ys, 0 ≤ i.op ∧ i.op ≤ 22) (hd : ∀ l, blkOf x = some l → l ∉ fp) (hk : k + ys.length ≤ 1000000) {K : Cont}
    (hK : ∀ v g' n' fp', St RbH g0 fp0 lb l5 h g' fp' (B.add ys) (k + ys.length) m → K v g' n') : AC bellowsref21_Builder_Add_id [ptr lb 0, x] g n K :=
  rAdd_spec s.b hx hd (by have := s.bk.2.1; omega) fun g' n' fp' hB u => hK _ g' n' fp' (s.move hB u (s.bk.add hl hk))
theorem qMark (s : St RbH g0 fp0 lb l5 h g fp B k m) (hm : m ≤ 1000000) {K : Cont}
    (hK : ∀ g' n' fp', St RbH g0 fp0 lb l5 h g' fp' B.mark k (m + 1) → K (.int .i64 B.marks.length) g' n') : AC bellowsref21_Builder_Mark_id [ptr lb 0] g n K :=
  rMark_spec s.b (by have := s.bk.2.2; omega) fun g' n' fp' hB u => hK g' n' fp' (s.move hB u s.bk.mark)
theorem qHere (s : St RbH g0 fp0 lb l5 h g fp B k m) {x : Int} {K : Cont}
    (hK : ∀ v g' n' fp', St RbH g0 fp0 lb l5 h g' fp' (B.here x) k m → K v g' n') : AC bellowsref21_Builder_Here_id [ptr lb 0, .int .i64 x] g n K :=
  rHere_spec s.b fun g' n' fp' hB u => hK _ g' n' fp' (s.move hB u (s.bk.here x))
theorem qJump (s : St RbH g0 fp0 lb l5 h g fp B k m) {i : Ins} {x : Int} (hk : k < 1000000) {K : Cont}
    (hK : ∀ v g' n' fp', St RbH g0 fp0 lb l5 h g' fp' (B.jump i x) (k + 1) m → K v g' n') : AC bellowsref21_Builder_Jump_id [ptr lb 0, .agg (encI i).toArray, .int .i64 x] g n K :=
  rJump_spec s.b (by have := s.bk.2.1; omega) fun g' n' fp' hB u => hK _ g' n' fp' (s.move hB u (s.bk.jump i x hk))
theorem litF1 (a : Ins) {K : List Value → Prop} (kk : K ((([a] : List Ins).map encI).flatten)) : kFill (reps 1 [(.int .i64 0), (.int .i64 0), (.int .i64 0), (.int .i64 0), (.int .i64 0)]) [(0, (some 5), .agg (encI a).toArray)] K :=
  ⟨rfl, by simp [reps], kk⟩
theorem pLit1 {a : Ins} (s : St BdH g0 fp0 lb l5 h g fp B k m) (hl : ∀ i ∈ ([a] : List Ins), 0 ≤ i.op ∧ i.op ≤ 22) (hk : k + 1 ≤ 1000000) {K : List Value → Nat → Value → G → Nat → Prop}
    (hK : ∀ cc l v g' n' fp', St BdH g0 fp0 lb l5 h g' fp' (B.add [a]) (k + 1) m → K cc l v g' n') :
    kFill (reps 1 [(.int .i64 0), (.int .i64 0), (.int .i64 0), (.int .i64 0), (.int .i64 0)]) [(0, (some 5), .agg (encI a).toArray)] fun c => kNew c .exact g n fun l g' n' => AC emit_Builder_Add_id [ptr lb 0, .slice (some ⟨l, 0, none⟩) 1 1] g' n' fun v g'' n'' => K c l v g'' n'' := by
  refine litF1 a fun hn => ?_
  have hs := (Sub.refl g).new hn (some (.cells ((([a] : List Ins).map encI).flatten) .exact))
  exact pAdd (s.sub hs) (sl_lit (upd_same _ _ _) 1 rfl 1) (by simp) hl hk fun v g' n' fp' s' => hK _ _ _ _ _ _ s'
theorem qLit1 {a : Ins} (s : St RbH g0 fp0 lb l5 h g fp B k m) (hl : ∀ i ∈ ([a] : List Ins), 0 ≤ i.op ∧ i.op ≤ 22) (hk : k + 1 ≤ 1000000) {K : List Value → Nat → Value → G → Nat → Prop}
    (hK : ∀ cc l v g' n' fp', St RbH g0 fp0 lb l5 h g' fp' (B.add [a]) (k + 1) m → K cc l v g' n') :
    kFill (reps 1 [(.int .i64 0), (.int .i64 0), (.int .i64 0), (.int .i64 0), (.int .i64 0)]) [(0, (some 5), .agg (encI a).toArray)] fun c => kNew c .exact g n fun l g' n' => AC bellowsref21_Builder_Add_id [ptr lb 0, .slice (some ⟨l, 0, none⟩) 1 1] g' n' fun v g'' n'' => K c l v g'' n'' := by
  refine litF1 a fun hn => ?_
  have hs := (Sub.refl g).new hn (some (.cells ((([a] : List Ins).map encI).flatten) .exact))
  exact qAdd (s.rsub hs) (sl_lit (upd_same _ _ _) 1 rfl 1) (by simp) hl (dis_lit s.b hn) hk fun v g' n' fp' s' => hK _ _ _ _ _ _ s'
theorem litF2 (a b : Ins) {K : List Value → Prop} (kk : K ((([a, b] : List Ins).map encI).flatten)) : kFill (reps 2 [(.int .i64 0), (.int .i64 0), (.int .i64 0), (.int .i64 0), (.int .i64 0)]) [(0, (some 5), .agg (encI a).toArray), (5, (some 5), .agg (encI b).toArray)] K :=
  ⟨rfl, by simp [reps], rfl, by simp [reps, splice, encI_len], kk⟩
theorem pLit2 {a b : Ins} (s : St BdH g0 fp0 lb l5 h g fp B k m) (hl : ∀ i ∈ ([a, b] : List Ins), 0 ≤ i.op ∧ i.op ≤ 22) (hk : k + 2 ≤ 1000000) {K : List Value → Nat → Value → G → Nat → Prop}
    (hK : ∀ cc l v g' n' fp', St BdH g0 fp0 lb l5 h g' fp' (B.add [a, b]) (k + 2) m → K cc l v g' n') :
    kFill (reps 2 [(.int .i64 0), (.int .i64 0), (.int .i64 0), (.int .i64 0), (.int .i64 0)]) [(0, (some 5), .agg (encI a).toArray), (5, (some 5), .agg (encI b).toArray)] fun c => kNew c .exact g n fun l g' n' => AC emit_Builder_Add_id [ptr lb 0, .slice (some ⟨l, 0, none⟩) 2 2] g' n' fun v g'' n'' => K c l v g'' n'' := by
  refine litF2 a b fun hn => ?_
  have hs := (Sub.refl g).new hn (some (.cells ((([a, b] : List Ins).map encI).flatten) .exact))
  exact pAdd (s.sub hs) (sl_lit (upd_same _ _ _) 2 rfl 2) (by simp) hl hk fun v g' n' fp' s' => hK _ _ _ _ _ _ s'
theorem qLit2 {a b : Ins} (s : St RbH g0 fp0 lb l5 h g fp B k m) (hl : ∀ i ∈ ([a, b] : List Ins), 0 ≤ i.op ∧ i.op ≤ 22) (hk : k + 2 ≤ 1000000) {K : List Value → Nat → Value → G → Nat → Prop}
    (hK : ∀ cc l v g' n' fp', St RbH g0 fp0 lb l5 h g' fp' (B.add [a, b]) (k + 2) m → K cc l v g' n') :
    kFill (reps 2 [(.int .i64 0), (.int .i64 0), (.int .i64 0), (.int .i64 0), (.int .i64 0)]) [(0, (some 5), .agg (encI a).toArray), (5, (some 5), .agg (encI b).toArray)] fun c => kNew c .exact g n fun l g' n' => AC bellowsref21_Builder_Add_id [ptr lb 0, .slice (some ⟨l, 0, none⟩) 2 2] g' n' fun v g'' n'' => K c l v g'' n'' := by
  refine litF2 a b fun hn => ?_
  have hs := (Sub.refl g).new hn (some (.cells ((([a, b] : List Ins).map encI).flatten) .exact))
  exact qAdd (s.rsub hs) (sl_lit (upd_same _ _ _) 2 rfl 2) (by simp) hl (dis_lit s.b hn) hk fun v g' n' fp' s' => hK _ _ _ _ _ _ s'
theorem litF3 (a b c : Ins) {K : List Value → Prop} (kk : K ((([a, b, c] : List Ins).map encI).flatten)) : kFill (reps 3 [(.int .i64 0), (.int .i64 0), (.int .i64 0), (.int .i64 0), (.int .i64 0)]) [(0, (some 5), .agg (encI a).toArray), (5, (some 5), .agg (encI b).toArray), (10, (some 5), .agg (encI c).toArray)] K :=
  ⟨rfl, by simp [reps], rfl, by simp [reps, splice, encI_len], rfl, by simp [reps, splice, encI_len], kk⟩
theorem pLit3 {a b c : Ins} (s : St BdH g0 fp0 lb l5 h g fp B k m) (hl : ∀ i ∈ ([a, b, c] : List Ins), 0 ≤ i.op ∧ i.op ≤ 22) (hk : k + 3 ≤ 1000000) {K : List Value → Nat → Value → G → Nat → Prop}
    (hK : ∀ cc l v g' n' fp', St BdH g0 fp0 lb l5 h g' fp' (B.add [a, b, c]) (k + 3) m → K cc l v g' n') :
    kFill (reps 3 [(.int .i64 0), (.int .i64 0), (.int .i64 0), (.int .i64 0), (.int .i64 0)]) [(0, (some 5), .agg (encI a).toArray), (5, (some 5), .agg (encI b).toArray), (10, (some 5), .agg (encI c).toArray)] fun c => kNew c .exact g n fun l g' n' => AC emit_Builder_Add_id [ptr lb 0, .slice (some ⟨l, 0, none⟩) 3 3] g' n' fun v g'' n'' => K c l v g'' n'' := by
  refine litF3 a b c fun hn => ?_
  have hs := (Sub.refl g).new hn (some (.cells ((([a, b, c] : List Ins).map encI).flatten) .exact))
  exact pAdd (s.sub hs) (sl_lit (upd_same _ _ _) 3 rfl 3) (by simp) hl hk fun v g' n' fp' s' => hK _ _ _ _ _ _ s'
theorem qLit3 {a b c : Ins} (s : St RbH g0 fp0 lb l5 h g fp B k m) (hl : ∀ i ∈ ([a, b, c] : List Ins), 0 ≤ i.op ∧ i.op ≤ 22) (hk : k + 3 ≤ 1000000) {K : List Value → Nat → Value → G → Nat → Prop}
    (hK : ∀ cc l v g' n' fp', St RbH g0 fp0 lb l5 h g' fp' (B.add [a, b, c]) (k + 3) m → K cc l v g' n') :
    kFill (reps 3 [(.int .i64 0), (.int .i64 0), (.int .i64 0), (.int .i64 0), (.int .i64 0)]) [(0, (some 5), .agg (encI a).toArray), (5, (some 5), .agg (encI b).toArray), (10, (some 5), .agg (encI c).toArray)] fun c => kNew c .exact g n fun l g' n' => AC bellowsref21_Builder_Add_id [ptr lb 0, .slice (some ⟨l, 0, none⟩) 3 3] g' n' fun v g'' n'' => K c l v g'' n'' := by
  refine litF3 a b c fun hn => ?_
  have hs := (Sub.refl g).new hn (some (.cells ((([a, b, c] : List Ins).map encI).flatten) .exact))
  exact qAdd (s.rsub hs) (sl_lit (upd_same _ _ _) 3 rfl 3) (by simp) hl (dis_lit s.b hn) hk fun v g' n' fp' s' => hK _ _ _ _ _ _ s'
theorem litF4 (a b c d : Ins) {K : List Value → Prop} (kk : K ((([a, b, c, d] : List Ins).map encI).flatten)) : kFill (reps 4 [(.int .i64 0), (.int .i64 0), (.int .i64 0), (.int .i64 0), (.int .i64 0)]) [(0, (some 5), .agg (encI a).toArray), (5, (some 5), .agg (encI b).toArray), (10, (some 5), .agg (encI c).toArray), (15, (some 5), .agg (encI d).toArray)] K :=
  ⟨rfl, by simp [reps], rfl, by simp [reps, splice, encI_len], rfl, by simp [reps, splice, encI_len], rfl, by simp [reps, splice, encI_len], kk⟩
theorem pLit4 {a b c d : Ins} (s : St BdH g0 fp0 lb l5 h g fp B k m) (hl : ∀ i ∈ ([a, b, c, d] : List Ins), 0 ≤ i.op ∧ i.op ≤ 22) (hk : k + 4 ≤ 1000000) {K : List Value → Nat → Value → G → Nat → Prop}
    (hK : ∀ cc l v g' n' fp', St BdH g0 fp0 lb l5 h g' fp' (B.add [a, b, c, d]) (k + 4) m → K cc l v g' n') :
    kFill (reps 4 [(.int .i64 0), (.int .i64 0), (.int .i64 0), (.int .i64 0), (.int .i64 0)]) [(0, (some 5), .agg (encI a).toArray), (5, (some 5), .agg (encI b).toArray), (10, (some 5), .agg (encI c).toArray), (15, (some 5), .agg (encI d).toArray)] fun c => kNew c .exact g n fun l g' n' => AC emit_Builder_Add_id [ptr lb 0, .slice (some ⟨l, 0, none⟩) 4 4] g' n' fun v g'' n'' => K c l v g'' n'' := by
  refine litF4 a b c d fun hn => ?_
  have hs := (Sub.refl g).new hn (some (.cells ((([a, b, c, d] : List Ins).map encI).flatten) .exact))
  exact pAdd (s.sub hs) (sl_lit (upd_same _ _ _) 4 rfl 4) (by simp) hl hk fun v g' n' fp' s' => hK _ _ _ _ _ _ s'
theorem qLit4 {a b c d : Ins} (s : St RbH g0 fp0 lb l5 h g fp B k m) (hl : ∀ i ∈ ([a, b, c, d] : List Ins), 0 ≤ i.op ∧ i.op ≤ 22) (hk : k + 4 ≤ 1000000) {K : List Value → Nat → Value → G → Nat → Prop}
    (hK : ∀ cc l v g' n' fp', St RbH g0 fp0 lb l5 h g' fp' (B.add [a, b, c, d]) (k + 4) m → K cc l v g' n') :
    kFill (reps 4 [(.int .i64 0), (.int .i64 0), (.int .i64 0), (.int .i64 0), (.int .i64 0)]) [(0, (some 5), .agg (encI a).toArray), (5, (some 5), .agg (encI b).toArray), (10, (some 5), .agg (encI c).toArray), (15, (some 5), .agg (encI d).toArray)] fun c => kNew c .exact g n fun l g' n' => AC bellowsref21_Builder_Add_id [ptr lb 0, .slice (some ⟨l, 0, none⟩) 4 4] g' n' fun v g'' n'' => K c l v g'' n'' := by
  refine litF4 a b c d fun hn => ?_
  have hs := (Sub.refl g).new hn (some (.cells ((([a, b, c, d] : List Ins).map encI).flatten) .exact))
  exact qAdd (s.rsub hs) (sl_lit (upd_same _ _ _) 4 rfl 4) (by simp) hl (dis_lit s.b hn) hk fun v g' n' fp' s' => hK _ _ _ _ _ _ s'
theorem litF6 (a b c d e f : Ins) {K : List Value → Prop} (kk : K ((([a, b, c, d, e, f] : List Ins).map encI).flatten)) : kFill (reps 6 [(.int .i64 0), (.int .i64 0), (.int .i64 0), (.int .i64 0), (.int .i64 0)]) [(0, (some 5), .agg (encI a).toArray), (5, (some 5), .agg (encI b).toArray), (10, (some 5), .agg (encI c).toArray), (15, (some 5), .agg (encI d).toArray), (20, (some 5), .agg (encI e).toArray), (25, (some 5), .agg (encI f).toArray)] K :=
  ⟨rfl, by simp [reps], rfl, by simp [reps, splice, encI_len], rfl, by simp [reps, splice, encI_len], rfl, by simp [reps, splice, encI_len], rfl, by simp [reps, splice, encI_len], rfl, by simp [reps, splice, encI_len], kk⟩
theorem pLit6 {a b c d e f : Ins} (s : St BdH g0 fp0 lb l5 h g fp B k m) (hl : ∀ i ∈ ([a, b, c, d, e, f] : List Ins), 0 ≤ i.op ∧ i.op ≤ 22) (hk : k + 6 ≤ 1000000) {K : List Value → Nat → Value → G → Nat → Prop}
    (hK : ∀ cc l v g' n' fp', St BdH g0 fp0 lb l5 h g' fp' (B.add [a, b, c, d, e, f]) (k + 6) m → K cc l v g' n') :
    kFill (reps 6 [(.int .i64 0), (.int .i64 0), (.int .i64 0), (.int .i64 0), (.int .i64 0)]) [(0, (some 5), .agg (encI a).toArray), (5, (some 5), .agg (encI b).toArray), (10, (some 5), .agg (encI c).toArray), (15, (some 5), .agg (encI d).toArray), (20, (some 5), .agg (encI e).toArray), (25, (some 5), .agg (encI f).toArray)] fun c => kNew c .exact g n fun l g' n' => AC emit_Builder_Add_id [ptr lb 0, .slice (some ⟨l, 0, none⟩) 6 6] g' n' fun v g'' n'' => K c l v g'' n'' := by
  refine litF6 a b c d e f fun hn => ?_
  have hs := (Sub.refl g).new hn (some (.cells ((([a, b, c, d, e, f] : List Ins).map encI).flatten) .exact))
  exact pAdd (s.sub hs) (sl_lit (upd_same _ _ _) 6 rfl 6) (by simp) hl hk fun v g' n' fp' s' => hK _ _ _ _ _ _ s'
theorem qLit6 {a b c d e f : Ins} (s : St RbH g0 fp0 lb l5 h g fp B k m) (hl : ∀ i ∈ ([a, b, c, d, e, f] : List Ins), 0 ≤ i.op ∧ i.op ≤ 22) (hk : k + 6 ≤ 1000000) {K : List Value → Nat → Value → G → Nat → Prop}
    (hK : ∀ cc l v g' n' fp', St RbH g0 fp0 lb l5 h g' fp' (B.add [a, b, c, d, e, f]) (k + 6) m → K cc l v g' n') :
    kFill (reps 6 [(.int .i64 0), (.int .i64 0), (.int .i64 0), (.int .i64 0), (.int .i64 0)]) [(0, (some 5), .agg (encI a).toArray), (5, (some 5), .agg (encI b).toArray), (10, (some 5), .agg (encI c).toArray), (15, (some 5), .agg (encI d).toArray), (20, (some 5), .agg (encI e).toArray), (25, (some 5), .agg (encI f).toArray)] fun c => kNew c .exact g n fun l g' n' => AC bellowsref21_Builder_Add_id [ptr lb 0, .slice (some ⟨l, 0, none⟩) 6 6] g' n' fun v g'' n'' => K c l v g'' n'' := by
  refine litF6 a b c d e f fun hn => ?_
  have hs := (Sub.refl g).new hn (some (.cells ((([a, b, c, d, e, f] : List Ins).map encI).flatten) .exact))
  exact qAdd (s.rsub hs) (sl_lit (upd_same _ _ _) 6 rfl 6) (by simp) hl (dis_lit s.b hn) hk fun v g' n' fp' s' => hK _ _ _ _ _ _ s'
theorem pLi {r x : Int} {K : Cont} (hK : ∀ g' n', Sub g g' → K (.agg (encI (liI r x)).toArray) g' n') : AC undo_li_id [.int .i64 r, .int .u64 x] g n K := by
  refine ACalls.fold X0_mono ?_
  rw [← undo_li_eq]
  simp only [undo_li, kConv_i]
  intro hn
  have hu : Sub g (upd g n (some (.cells [(.int .i64 0), (.int .i64 0), (.int .i64 0), (.int .i64 0), (.int .i64 0)] .exact))) := (Sub.refl g).new hn _
  refine ⟨rfl, by simp, rfl, by simp, rfl, by simp, ?_⟩
  refine ⟨rfl, kStN_of (upd_same _ _ _) rfl (by simp) (encI_cell (liI r x)) ?_⟩
  refine ldI (x := (liI r x)) (upd_same _ _ _) (aRet_of (Sub.refl _) (hK _ _ ?_))
  exact (hu.upd_fresh _ hn)
theorem pSt {a b c : Int} {K : Cont} (hK : ∀ g' n', Sub g g' → K (.agg (encI ⟨9, a, b, 0, c⟩).toArray) g' n') : AC undo_st_id [.int .i64 a, .int .i64 b, .int .i64 c] g n K := by
  refine ACalls.fold X0_mono ?_
  rw [← undo_st_eq]
  simp only [undo_st]
  intro hn
  have hu : Sub g (upd g n (some (.cells [(.int .i64 0), (.int .i64 0), (.int .i64 0), (.int .i64 0), (.int .i64 0)] .exact))) := (Sub.refl g).new hn _
  refine ⟨rfl, by simp, rfl, by simp, rfl, by simp, rfl, by simp, ?_⟩
  refine ⟨rfl, kStN_of (upd_same _ _ _) rfl (by simp) (encI_cell ⟨9, a, b, 0, c⟩) ?_⟩
  refine ldI (x := ⟨9, a, b, 0, c⟩) (upd_same _ _ _) (aRet_of (Sub.refl _) (hK _ _ ?_))
  exact (hu.upd_fresh _ hn)
theorem pLd {a b c : Int} {K : Cont} (hK : ∀ g' n', Sub g g' → K (.agg (encI ⟨8, a, b, 0, c⟩).toArray) g' n') : AC undo_ld_id [.int .i64 a, .int .i64 b, .int .i64 c] g n K := by
  refine ACalls.fold X0_mono ?_
  rw [← undo_ld_eq]
  simp only [undo_ld]
  intro hn
  have hu : Sub g (upd g n (some (.cells [(.int .i64 0), (.int .i64 0), (.int .i64 0), (.int .i64 0), (.int .i64 0)] .exact))) := (Sub.refl g).new hn _
  refine ⟨rfl, by simp, rfl, by simp, rfl, by simp, rfl, by simp, ?_⟩
  refine ⟨rfl, kStN_of (upd_same _ _ _) rfl (by simp) (encI_cell ⟨8, a, b, 0, c⟩) ?_⟩
  refine ldI (x := ⟨8, a, b, 0, c⟩) (upd_same _ _ _) (aRet_of (Sub.refl _) (hK _ _ ?_))
  exact (hu.upd_fresh _ hn)
theorem pCl {b : Int} {K : Cont} (hK : ∀ g' n', Sub g g' → K (.agg (encI ⟨12, 0, b, 0, 0⟩).toArray) g' n') : AC undo_clwb_id [.int .i64 b] g n K := by
  refine ACalls.fold X0_mono ?_
  rw [← undo_clwb_eq]
  simp only [undo_clwb]
  intro hn
  have hu : Sub g (upd g n (some (.cells [(.int .i64 0), (.int .i64 0), (.int .i64 0), (.int .i64 0), (.int .i64 0)] .exact))) := (Sub.refl g).new hn _
  refine ⟨rfl, by simp, rfl, by simp, ?_⟩
  refine ⟨rfl, kStN_of (upd_same _ _ _) rfl (by simp) (encI_cell ⟨12, 0, b, 0, 0⟩) ?_⟩
  refine ldI (x := ⟨12, 0, b, 0, 0⟩) (upd_same _ _ _) (aRet_of (Sub.refl _) (hK _ _ ?_))
  exact (hu.upd_fresh _ hn)
theorem pTh {o a b c : Int} {K : Cont} (hK : ∀ g' n', Sub g g' → K (.agg (encI ⟨o, a, b, c, 0⟩).toArray) g' n') : AC undo_three_id [.int .i64 o, .int .i64 a, .int .i64 b, .int .i64 c] g n K := by
  refine ACalls.fold X0_mono ?_
  rw [← undo_three_eq]
  simp only [undo_three]
  intro hn
  have hu : Sub g (upd g n (some (.cells [(.int .i64 0), (.int .i64 0), (.int .i64 0), (.int .i64 0), (.int .i64 0)] .exact))) := (Sub.refl g).new hn _
  refine ⟨rfl, by simp, rfl, by simp, rfl, by simp, rfl, by simp, ?_⟩
  refine ⟨rfl, kStN_of (upd_same _ _ _) rfl (by simp) (encI_cell ⟨o, a, b, c, 0⟩) ?_⟩
  refine ldI (x := ⟨o, a, b, c, 0⟩) (upd_same _ _ _) (aRet_of (Sub.refl _) (hK _ _ ?_))
  exact (hu.upd_fresh _ hn)
theorem qOp {o a b c : Int} {K : Cont} (hK : ∀ g' n', Sub g g' → K (.agg (encI ⟨o, a, b, c, 0⟩).toArray) g' n') : AC bellowsref24_op_id [.int .i64 o, .int .i64 a, .int .i64 b, .int .i64 c] g n K := by
  refine ACalls.fold X0_mono ?_
  rw [← bellowsref24_op_eq]
  simp only [bellowsref24_op]
  intro hn
  have hu : Sub g (upd g n (some (.cells [(.int .i64 0), (.int .i64 0), (.int .i64 0), (.int .i64 0), (.int .i64 0)] .exact))) := (Sub.refl g).new hn _
  refine ⟨rfl, by simp, rfl, by simp, rfl, by simp, rfl, by simp, ?_⟩
  refine ⟨rfl, kStN_of (upd_same _ _ _) rfl (by simp) (encI_cell ⟨o, a, b, c, 0⟩) ?_⟩
  refine ldI (x := ⟨o, a, b, c, 0⟩) (upd_same _ _ _) (aRet_of (Sub.refl _) (hK _ _ ?_))
  exact (hu.upd_fresh _ hn)
theorem qMem {o a b c : Int} {K : Cont} (hK : ∀ g' n', Sub g g' → K (.agg (encI ⟨o, a, b, 0, c⟩).toArray) g' n') : AC bellowsref24_mem_id [.int .i64 o, .int .i64 a, .int .i64 b, .int .i64 c] g n K := by
  refine ACalls.fold X0_mono ?_
  rw [← bellowsref24_mem_eq]
  simp only [bellowsref24_mem]
  intro hn
  have hu : Sub g (upd g n (some (.cells [(.int .i64 0), (.int .i64 0), (.int .i64 0), (.int .i64 0), (.int .i64 0)] .exact))) := (Sub.refl g).new hn _
  refine ⟨rfl, by simp, rfl, by simp, rfl, by simp, rfl, by simp, ?_⟩
  refine ⟨rfl, kStN_of (upd_same _ _ _) rfl (by simp) (encI_cell ⟨o, a, b, 0, c⟩) ?_⟩
  refine ldI (x := ⟨o, a, b, 0, c⟩) (upd_same _ _ _) (aRet_of (Sub.refl _) (hK _ _ ?_))
  exact (hu.upd_fresh _ hn)
theorem rLi {r x : Int} {K : Cont} (hK : ∀ g' n', Sub g g' → K (.agg (encI (liI r x)).toArray) g' n') : AC bellowsref23_Li_id [.int .i64 r, .int .u64 x] g n K := by
  refine ACalls.fold X0_mono ?_
  rw [← bellowsref23_Li_eq]
  simp only [bellowsref23_Li, kConv_i]
  intro hn
  have hu : Sub g (upd g n (some (.cells [(.int .i64 0), (.int .i64 0), (.int .i64 0), (.int .i64 0), (.int .i64 0)] .exact))) := (Sub.refl g).new hn _
  refine ⟨rfl, by simp, rfl, by simp, rfl, by simp, ?_⟩
  refine ⟨rfl, kStN_of (upd_same _ _ _) rfl (by simp) (encI_cell (liI r x)) ?_⟩
  refine ldI (x := (liI r x)) (upd_same _ _ _) (aRet_of (Sub.refl _) (hK _ _ ?_))
  exact (hu.upd_fresh _ hn)
theorem pFe {K : Cont} (hK : ∀ g' n', Sub g g' → K (.agg (encI ⟨15, 0, 0, 0, 0⟩).toArray) g' n') : AC undo_fence_id [] g n K := by
  refine ACalls.fold X0_mono ?_
  rw [← undo_fence_eq]
  simp only [undo_fence]
  intro hn
  have hu : Sub g (upd g n (some (.cells [(.int .i64 0), (.int .i64 0), (.int .i64 0), (.int .i64 0), (.int .i64 0)] .exact))) := (Sub.refl g).new hn _
  refine ⟨rfl, by simp, ?_⟩
  refine ⟨rfl, kStN_of (upd_same _ _ _) rfl (by simp) (encI_cell ⟨15, 0, 0, 0, 0⟩) ?_⟩
  refine ldI (x := ⟨15, 0, 0, 0, 0⟩) (upd_same _ _ _) (aRet_of (Sub.refl _) (hK _ _ ?_))
  exact (hu.upd_fresh _ hn)
theorem qLi {r x : Int} {K : Cont} (hK : ∀ g' n', Sub g g' → K (.agg (encI (liI r x)).toArray) g' n') : AC bellowsref24_li_id [.int .i64 r, .int .u64 x] g n K := by
  refine ACalls.fold X0_mono ?_
  rw [← bellowsref24_li_eq]
  simp only [bellowsref24_li]
  intro hn
  have hu : Sub g (upd g n (some (.cells [(.int .i64 0), (.int .i64 0), (.int .i64 0), (.int .i64 0), (.int .i64 0)] .exact))) := (Sub.refl g).new hn _
  refine rLi fun g2 n2 h2 => ?_
  refine ⟨rfl, kStN_of (h2.live (upd_same _ _ _)) rfl (by simp [encI_len]) (encI_cell (liI r x)) ?_⟩
  refine ldI (x := liI r x) (upd_same _ _ _) (aRet_of (Sub.refl _) (hK _ _ ?_))
  exact (hu.trans h2).upd_fresh _ hn
theorem fillOp (o : Int) {K : List Value → Prop} (kk : K (encI ⟨o, 0, 0, 0, 0⟩)) : kFill [(.int .i64 0), (.int .i64 0), (.int .i64 0), (.int .i64 0), (.int .i64 0)] [(0, none, (.int .i64 o))] K := ⟨rfl, by simp, kk⟩
end Go.Proofs.YtecojalpbppfeaaGreat.Gen

namespace Go.Proofs.YtecojalpbppfeaaGreat.Gen
open Go Go.Proofs.YtecojalpbppfeaaGreat.Abs Go.RowKit
variable {g : G} {n : Nat}
/-! ## begin, note, back: what they add -/
def entryL (h : Hp) : List Ins := [liI 0 4, ⟨6, 6, 7, 0, 0⟩, liI 0 (entryH h), ⟨2, 6, 6, 0, 0⟩]
def noughtL (h : Hp) : List Ins := [⟨15, 0, 0, 0, 0⟩, liI 6 (countH h), liI 0 0, ⟨9, 0, 6, 0, 0⟩, ⟨12, 0, 6, 0, 0⟩, ⟨15, 0, 0, 0, 0⟩]
def noteB (h : Hp) (w f : Int) (B : Bd) : Bd := if GoodH h ∧ 0 ≤ w ∧ w < 8 * h.hl then
  ((((B.add [liI 0 (roomH h)]).jump ⟨18, 7, 0, 0, 0⟩ f).add (entryL h)).add [liI 1 (wordH h w), ⟨9, 1, 6, 0, 0⟩, ⟨8, 4, 1, 0, 0⟩, ⟨9, 4, 6, 0, 8⟩, ⟨12, 0, 6, 0, 0⟩, ⟨15, 0, 0, 0, 0⟩]).add [liI 0 1, ⟨2, 7, 7, 0, 0⟩, liI 6 (countH h), ⟨9, 7, 6, 0, 0⟩, ⟨12, 0, 6, 0, 0⟩, ⟨15, 0, 0, 0, 0⟩] else B
def backB (h : Hp) (B : Bd) : Bd := if GoodH h then
  (((((((((B.mark.mark.here B.marks.length).add [liI 0 0]).jump ⟨18, 7, 0, 0, 0⟩ B.mark.marks.length).add [liI 0 1, ⟨3, 7, 7, 0, 0⟩]).add (entryL h)).add [⟨8, 1, 6, 0, 0⟩, ⟨8, 4, 6, 0, 8⟩, ⟨9, 4, 1, 0, 0⟩, ⟨12, 0, 1, 0, 0⟩]).jump ⟨17, 0, 0, 0, 0⟩ B.marks.length).here B.mark.marks.length).add (noughtL h)) else B
theorem St.init {g : G} {n : Nat} {fp : List Nat} {lb k m : Nat} {h : Hp} {B : Bd} (hB : BdH g fp lb B) (hn : g n = none) (hk : Bk k m B) : St BdH g fp lb n h (upd g n (some (.cells (encH h) .exact))) fp B k m :=
  ⟨hB.mono ((Sub.refl g).new hn _), Upd.sub ((Sub.refl g).new hn _), upd_same _ _ _, fun hm => (by obtain ⟨b, hb⟩ := hB.live _ hm; rw [hn] at hb; cases hb), hk⟩
theorem St.rinit {g : G} {n : Nat} {fp : List Nat} {lb k m : Nat} {h : Hp} {B : Bd} (hB : RbH g fp lb B) (hn : g n = none) (hk : Bk k m B) : St RbH g fp lb n h (upd g n (some (.cells (encH h) .exact))) fp B k m :=
  ⟨hB.mono ((Sub.refl g).new hn _), Upd.sub ((Sub.refl g).new hn _), upd_same _ _ _, fun hm => (by obtain ⟨b, hb⟩ := hB.live _ hm; rw [hn] at hb; cases hb), hk⟩
variable {fp : List Nat} {lb k m : Nat} {h : Hp} {B : Bd} {w f : Int}
theorem entry_spec {K : Cont} (hK : ∀ x g' n', Sub g g' → Sl encI 5 g' x (entryL h) → K x g' n') : AC undo_entry_id [.agg (encH h).toArray] g n K := by
  refine ACalls.fold X0_mono ?_
  rw [← undo_entry_eq]
  simp only [undo_entry, kAgg_a, kPtr_p]
  intro hn
  have h1s := (Sub.refl g).new hn (some (.cells (encH h) .exact))
  have hb1 : upd g n (some (.cells (encH h) .exact)) n = some (.cells (encH h) .exact) := upd_same _ _ _
  generalize upd g n (some (.cells (encH h) .exact)) = g1 at h1s hb1
  refine ldH hb1 (pLi fun g2 n2 h2 => ⟨(h2.live hb1).trans hb1.symm, pTh fun g3 n3 h3 => ⟨((h2.trans h3).live hb1).trans (h2.live hb1).symm, Entry_spec fun g4 n4 h4 => pLi fun g5 n5 h5 => pTh fun g6 n6 h6 => litF4 _ _ _ _ fun hn6 => ?_⟩⟩)
  have h7 := (Sub.refl g6).new hn6 (some (.cells (((entryL h).map encI).flatten) .exact))
  exact aRet_of (Sub.refl _) (hK _ _ _ (h1s.trans (h2.trans (h3.trans (h4.trans (h5.trans (h6.trans h7)))))) (sl_lit (upd_same _ _ _) 4 rfl 4))
theorem nought_spec {K : Cont} (hK : ∀ x g' n', Sub g g' → Sl encI 5 g' x (noughtL h) → K x g' n') : AC undo_nought_id [.agg (encH h).toArray] g n K := by
  refine ACalls.fold X0_mono ?_
  rw [← undo_nought_eq]
  simp only [undo_nought, kAgg_a, kPtr_p]
  intro hn
  have h1s := (Sub.refl g).new hn (some (.cells (encH h) .exact))
  have hb1 : upd g n (some (.cells (encH h) .exact)) n = some (.cells (encH h) .exact) := upd_same _ _ _
  generalize upd g n (some (.cells (encH h) .exact)) = g1 at h1s hb1
  refine ldH hb1 (pFe fun g2 n2 h2 => ⟨(h2.live hb1).trans hb1.symm, Count_spec fun g3 n3 h3 => pLi fun g4 n4 h4 => pLi fun g5 n5 h5 => pSt fun g6 n6 h6 => pCl fun g7 n7 h7 => pFe fun g8 n8 h8 => litF6 _ _ _ _ _ _ fun hn8 => ?_⟩)
  have h9 := (Sub.refl g8).new hn8 (some (.cells (((noughtL h).map encI).flatten) .exact))
  exact aRet_of (Sub.refl _) (hK _ _ _ (h1s.trans (h2.trans (h3.trans (h4.trans (h5.trans (h6.trans (h7.trans (h8.trans h9)))))))) (sl_lit (upd_same _ _ _) 6 rfl 6))
theorem Bd.add2 (B : Bd) (a b : List Ins) : (B.add a).add b = B.add (a ++ b) := Bd.add_add B a b
theorem Begin_spec {K : Cont} (hB : BdH g fp lb B) (hk : Bk k m B) (hk2 : k + 1 ≤ 1000000) (hK : ∀ g' n' fp', BdH g' fp' lb (B.add [liI 7 0]) → Upd fp fp' g g' → Bk (k + 1) m (B.add [liI 7 0]) → K (.tuple #[]) g' n') : AC undo_Begin_id [ptr lb 0] g n K := by
  refine ACalls.fold X0_mono ?_
  rw [← undo_Begin_eq]
  simp only [undo_Begin]
  refine pLi fun g1 n1 h1 => litF1 _ fun hn => ?_
  have hs := (Sub.refl g1).new hn (some (.cells ((([liI 7 0] : List Ins).map encI).flatten) .exact))
  refine Add_spec (hB.mono (h1.trans hs)) (sl_lit (upd_same _ _ _) 1 rfl 1) (by simp) (by have := hk.2.1; simp; omega) fun g' n' fp' h4 u => aRet_of (Sub.refl _) ?_
  exact hK _ _ _ h4 ((Upd.sub (h1.trans hs)).trans u) (hk.add (by simp [liI]) (by simpa using hk2))
theorem rBegin_spec {K : Cont} (hB : RbH g fp lb B) (hk : Bk k m B) (hk2 : k + 1 ≤ 1000000) (hK : ∀ g' n' fp', RbH g' fp' lb (B.add [liI 7 0]) → Upd fp fp' g g' → K (.tuple #[]) g' n') : AC bellowsref24_Begin_id [ptr lb 0] g n K := by
  refine ACalls.fold X0_mono ?_
  rw [← bellowsref24_Begin_eq]
  simp only [bellowsref24_Begin]
  refine qLi fun g1 n1 h1 => litF1 _ fun hn => ?_
  have hs := (Sub.refl g1).new hn (some (.cells ((([liI 7 0] : List Ins).map encI).flatten) .exact))
  refine rAdd_spec (hB.mono (h1.trans hs)) (sl_lit (upd_same _ _ _) 1 rfl 1) (dis_lit (hB.mono h1) hn) (by have := hk.2.1; simp; omega) fun g' n' fp' h4 u => aRet_of (Sub.refl _) ?_
  exact hK _ _ _ h4 ((Upd.sub (h1.trans hs)).trans u)
theorem Note_spec {K : Cont} (hB : BdH g fp lb B) (hk : Bk k m B) (hk2 : k + 18 ≤ 1000000) (hK : ∀ g' n' fp', BdH g' fp' lb (noteB h w f B) → Upd fp fp' g g' → Bk (k + 18) m (noteB h w f B) → K (.tuple #[]) g' n') : AC undo_Note_id [ptr lb 0, .agg (encH h).toArray, .int .i64 w, .int .i64 f] g n K := by
  refine ACalls.fold X0_mono ?_
  rw [← undo_Note_eq]
  simp only [undo_Note, kAgg_a, kBin_p_eql, kPtr_p]
  intro hn
  have s := St.init (h := h) hB hn hk
  generalize upd g n (some (.cells (encH h) .exact)) = g1 at s
  have no : ¬ (GoodH h ∧ 0 ≤ w ∧ w < 8 * h.hl) → ∀ g' n', St BdH g fp lb n h g' fp B k m → aRet K (.tuple #[]) g' n' := fun hh g' n' s => by
    have e : noteB h w f B = B := by unfold noteB; rw [if_neg hh]
    rw [e] at hK
    exact aRet_of (Sub.refl _) (hK _ _ _ s.b s.u (s.bk.up (by omega) (Nat.le_refl _)))
  refine kSplit_f rfl (ldH s.hb (GoodH_spec fun _ _ hs => ?_))
  have s := s.sub hs
  rw [kUn_not]
  by_cases hG : GoodH h
  · refine kSplit_f (by simp [hG]) ?_
    rw [kBin_lss]
    refine kSplit_d (fun hh => no (by omega) _ _ s) (fun hw0 => ldH s.hb (Wds_spec fun _ _ hs => ?_))
    have s := s.sub hs
    have ew : wordsH h = 8 * h.hl := by unfold wordsH; rw [if_pos hG]
    rw [kBin_geq, ew]
    refine kSplit_d (fun hh => no (by omega) _ _ s) (fun hw1 => ldH s.hb (Room_spec fun _ _ hs => ?_))
    have s := s.sub hs
    have e : noteB h w f B = _ := if_pos (show GoodH h ∧ 0 ≤ w ∧ w < 8 * h.hl from ⟨hG, by omega, by omega⟩)
    rw [e] at hK
    have hr := roomH_le h
    rw [kConv_i, wU (by omega) (by omega)]
    refine pLi fun _ _ hs => ?_
    have s := s.sub hs
    refine pLit1 s (by simp [liI]) (by omega) fun _ _ _ _ _ _ s => ?_
    refine fillI ⟨18, 7, 0, 0, 0⟩ _ rfl rfl rfl (pJump s (by omega) fun _ _ _ _ s => ?_)
    refine ldH s.hb (entry_spec fun _ _ _ hs hx => ?_)
    have s := s.sub hs
    have he : (entryL h).length = 4 := rfl
    refine pAdd s hx (by omega) (by simp [entryL, liI]) (by omega) fun _ _ _ _ s => ?_
    refine ldH s.hb (Word_spec fun _ _ hs => ?_)
    have s := s.sub hs
    refine pLi fun _ _ hs => ?_
    have s := s.sub hs
    refine pSt fun _ _ hs => ?_
    have s := s.sub hs
    refine pLd fun _ _ hs => ?_
    have s := s.sub hs
    refine pSt fun _ _ hs => ?_
    have s := s.sub hs
    refine pCl fun _ _ hs => ?_
    have s := s.sub hs
    refine pFe fun _ _ hs => ?_
    have s := s.sub hs
    refine pLit6 s (by simp [liI]) (by omega) fun _ _ _ _ _ _ s => ?_
    refine ldH s.hb (pLi fun _ _ hs => ?_)
    refine ⟨(hs.live s.hb).trans s.hb.symm, ?_⟩
    have s := s.sub hs
    refine pTh fun _ _ hs => ⟨(hs.live s.hb).trans s.hb.symm, ?_⟩
    have s := s.sub hs
    refine Count_spec fun _ _ hs => ?_
    have s := s.sub hs
    refine pLi fun _ _ hs => ?_
    have s := s.sub hs
    refine pSt fun _ _ hs => ?_
    have s := s.sub hs
    refine pCl fun _ _ hs => ?_
    have s := s.sub hs
    refine pFe fun _ _ hs => ?_
    have s := s.sub hs
    refine pLit6 s (by simp [liI]) (by omega) fun _ _ _ _ _ _ s => ?_
    exact aRet_of (Sub.refl _) (hK _ _ _ s.b s.u (s.bk.up (by omega) (Nat.le_refl _)))
  · exact kSplit_t (by simp [hG]) (no (fun hh => hG hh.1) _ _ s)
theorem rEnt_spec {K : Cont} (hB : RbH g fp lb B) (hk : Bk k m B) (hk2 : k + 4 ≤ 1000000) (hK : ∀ v g' n' fp', RbH g' fp' lb (B.add (entryL h)) → Upd fp fp' g g' → Bk (k + 4) m (B.add (entryL h)) → K v g' n') : AC bellowsref24_entry_id [ptr lb 0, .agg (encH h).toArray] g n K := by
  refine ACalls.fold X0_mono ?_
  rw [← bellowsref24_entry_eq]
  simp only [bellowsref24_entry, kAgg_a, kPtr_p]
  intro hn
  have s := St.rinit (h := h) hB hn hk
  generalize upd g n (some (.cells (encH h) .exact)) = g1 at s
  refine ldH s.hb (qLi fun _ _ hs => ⟨(hs.live s.hb).trans s.hb.symm, ?_⟩)
  have s := s.rsub hs
  refine qOp fun _ _ hs => ⟨(hs.live s.hb).trans s.hb.symm, ?_⟩
  have s := s.rsub hs
  refine rEntry_spec fun _ _ hs => ?_
  have s := s.rsub hs
  refine qLi fun _ _ hs => ?_
  have s := s.rsub hs
  refine qOp fun _ _ hs => ?_
  have s := s.rsub hs
  refine qLit4 s (by simp [liI]) (by omega) fun _ _ _ _ _ _ s => ?_
  exact aRet_of (Sub.refl _) (hK _ _ _ _ s.b s.u s.bk)
theorem rCountT_spec {r : Int} {K : Cont} (hB : RbH g fp lb B) (hk : Bk k m B) (hk2 : k + 5 ≤ 1000000) (hK : ∀ v g' n' fp', RbH g' fp' lb (B.add [liI 6 (countH h), liI 0 0, ⟨9, r, 6, 0, 0⟩, ⟨12, 0, 6, 0, 0⟩, ⟨15, 0, 0, 0, 0⟩]) → Upd fp fp' g g' → K v g' n') : AC bellowsref24_count_id [ptr lb 0, .agg (encH h).toArray, .int .i64 r, .bool true] g n K := by
  refine ACalls.fold X0_mono ?_
  rw [← bellowsref24_count_eq]
  simp only [bellowsref24_count, kAgg_a, kPtr_p]
  intro hn
  have s := St.rinit (h := h) hB hn hk
  generalize upd g n (some (.cells (encH h) .exact)) = g1 at s
  refine ldH s.hb (rCount_spec fun _ _ hs => ?_)
  have s := s.rsub hs
  refine qLi fun _ _ hs => ?_
  have s := s.rsub hs
  refine qLit1 s (by simp [liI]) (by omega) fun _ _ _ _ _ _ s => ?_
  refine kSplit_t rfl (qLi fun _ _ hs => ?_)
  have s := s.rsub hs
  refine qLit1 s (by simp [liI]) (by omega) fun _ _ _ _ _ _ s => ?_
  simp only [bellowsref24_count_j1]
  refine qMem fun _ _ hs => ?_
  have s := s.rsub hs
  refine qMem fun _ _ hs => ?_
  have s := s.rsub hs
  refine qOp fun _ _ hs => ?_
  have s := s.rsub hs
  refine qLit3 s (by simp) (by omega) fun _ _ _ _ _ _ s => ?_
  have hb := s.b
  simp only [Bd.add_add, List.cons_append, List.nil_append] at hb
  exact aRet_of (Sub.refl _) (hK _ _ _ _ hb s.u)
theorem rCountF_spec {r : Int} {K : Cont} (hB : RbH g fp lb B) (hk : Bk k m B) (hk2 : k + 4 ≤ 1000000) (hK : ∀ v g' n' fp', RbH g' fp' lb (B.add [liI 6 (countH h), ⟨9, r, 6, 0, 0⟩, ⟨12, 0, 6, 0, 0⟩, ⟨15, 0, 0, 0, 0⟩]) → Upd fp fp' g g' → K v g' n') : AC bellowsref24_count_id [ptr lb 0, .agg (encH h).toArray, .int .i64 r, .bool false] g n K := by
  refine ACalls.fold X0_mono ?_
  rw [← bellowsref24_count_eq]
  simp only [bellowsref24_count, kAgg_a, kPtr_p]
  intro hn
  have s := St.rinit (h := h) hB hn hk
  generalize upd g n (some (.cells (encH h) .exact)) = g1 at s
  refine ldH s.hb (rCount_spec fun _ _ hs => ?_)
  have s := s.rsub hs
  refine qLi fun _ _ hs => ?_
  have s := s.rsub hs
  refine qLit1 s (by simp [liI]) (by omega) fun _ _ _ _ _ _ s => ?_
  refine kSplit_f rfl ?_
  simp only [bellowsref24_count_j1]
  refine qMem fun _ _ hs => ?_
  have s := s.rsub hs
  refine qMem fun _ _ hs => ?_
  have s := s.rsub hs
  refine qOp fun _ _ hs => ?_
  have s := s.rsub hs
  refine qLit3 s (by simp) (by omega) fun _ _ _ _ _ _ s => ?_
  have hb := s.b
  simp only [Bd.add_add, List.cons_append, List.nil_append] at hb
  exact aRet_of (Sub.refl _) (hK _ _ _ _ hb s.u)
end Go.Proofs.YtecojalpbppfeaaGreat.Gen

namespace Go.Proofs.YtecojalpbppfeaaGreat.Gen
open Go Go.Proofs.YtecojalpbppfeaaGreat.Abs Go.RowKit
variable {g : G} {n : Nat}
variable {fp : List Nat} {lb k m : Nat} {h : Hp} {B : Bd} {w f : Int}
theorem goodD (hG : GoodH h) : decide (GoodH h) = true := by simp [hG]
theorem rNote_spec {K : Cont} (hB : RbH g fp lb B) (hk : Bk k m B) (hk2 : k + 18 ≤ 1000000) (hK : ∀ g' n' fp', RbH g' fp' lb (noteB h w f B) → Upd fp fp' g g' → K (.tuple #[]) g' n') : AC bellowsref24_Note_id [ptr lb 0, .agg (encH h).toArray, .int .i64 w, .int .i64 f] g n K := by
  refine ACalls.fold X0_mono ?_
  rw [← bellowsref24_Note_eq]
  simp only [bellowsref24_Note, kAgg_a]
  intro hn
  have s := St.rinit (h := h) hB hn hk
  generalize upd g n (some (.cells (encH h) .exact)) = g1 at s
  have no : ¬ (GoodH h ∧ 0 ≤ w ∧ w < 8 * h.hl) → ∀ g' n', St RbH g fp lb n h g' fp B k m → aRet K (.tuple #[]) g' n' := fun hh g' n' s => by
    have e : noteB h w f B = B := by unfold noteB; rw [if_neg hh]
    rw [e] at hK
    exact aRet_of (Sub.refl _) (hK _ _ _ s.b s.u)
  rw [kBin_lss]
  refine kSplit_d (fun hh => no (by omega) _ _ s) (fun hw0 => ldH s.hb (rWds_spec fun _ _ hs => ?_))
  have s := s.rsub hs
  rw [kBin_geq]
  by_cases hG : GoodH h
  · have ew : wordsH h = 8 * h.hl := by unfold wordsH; rw [if_pos hG]
    rw [ew]
    refine kSplit_d (fun hh => no (by omega) _ _ s) (fun hw1 => ldH s.hb (rRoom_spec fun _ _ hs => ?_))
    have s := s.rsub hs
    have e : noteB h w f B = _ := if_pos (show GoodH h ∧ 0 ≤ w ∧ w < 8 * h.hl from ⟨hG, by omega, by omega⟩)
    rw [e] at hK
    have hr := roomH_le h
    rw [kConv_i, wU (by omega) (by omega)]
    refine qLi fun _ _ hs => ?_
    have s := s.rsub hs
    refine qLit1 s (by simp [liI]) (by omega) fun _ _ _ _ _ _ s => ?_
    refine qOp fun _ _ hs => ?_
    have s := s.rsub hs
    refine qJump s (by omega) fun _ _ _ _ s => ?_
    refine ldH s.hb (rEnt_spec s.b s.bk (by omega) fun _ _ _ _ hb' u' hk' => ?_)
    have s := s.move hb' u' hk'
    refine ldH s.hb (rWord_spec fun _ _ hs => ?_)
    have s := s.rsub hs
    refine qLi fun _ _ hs => ?_
    have s := s.rsub hs
    refine qMem fun _ _ hs => ?_
    have s := s.rsub hs
    refine qMem fun _ _ hs => ?_
    have s := s.rsub hs
    refine qMem fun _ _ hs => ?_
    have s := s.rsub hs
    refine qMem fun _ _ hs => ?_
    have s := s.rsub hs
    refine qOp fun _ _ hs => ?_
    have s := s.rsub hs
    refine qLit6 s (by simp [liI]) (by omega) fun _ _ _ _ _ _ s => ?_
    refine qLi fun _ _ hs => ?_
    have s := s.rsub hs
    refine qOp fun _ _ hs => ?_
    have s := s.rsub hs
    refine qLit2 s (by simp [liI]) (by omega) fun _ _ _ _ _ _ s => ?_
    refine ldH s.hb (rCountF_spec s.b s.bk (by omega) fun _ _ _ _ hb' u' => ?_)
    simp only [Bd.add_add, List.cons_append, List.nil_append] at hb'
    refine aRet_of (Sub.refl _) (hK _ _ _ ?_ (s.u.trans u'))
    simp only [Bd.add_add, List.cons_append, List.nil_append]
    exact hb'
  · exact kSplit_t (by unfold wordsH; rw [if_neg hG]; simp; omega) (no (fun hh => hG hh.1) _ _ s)
theorem Back_spec {K : Cont} (hB : BdH g fp lb B) (hk : Bk k m B) (hk2 : k + 19 ≤ 1000000) (hm2 : m + 2 ≤ 1000000) (hK : ∀ g' n' fp', BdH g' fp' lb (backB h B) → Upd fp fp' g g' → Bk (k + 19) (m + 2) (backB h B) → K (.tuple #[]) g' n') : AC undo_Back_id [ptr lb 0, .agg (encH h).toArray] g n K := by
  refine ACalls.fold X0_mono ?_
  rw [← undo_Back_eq]
  simp only [undo_Back, kAgg_a, kBin_p_eql]
  intro hn
  have s := St.init (h := h) hB hn hk
  generalize upd g n (some (.cells (encH h) .exact)) = g1 at s
  refine kSplit_f rfl (ldH s.hb (GoodH_spec fun _ _ hs => ?_))
  have s := s.sub hs
  rw [kUn_not]
  by_cases hG : GoodH h
  · refine kSplit_f (by simp [hG]) ?_
    have e : backB h B = _ := if_pos hG
    rw [e] at hK
    refine pMark s (by omega) fun _ _ _ s => pMark s (by omega) fun _ _ _ s => pHere s fun _ _ _ _ s => ?_
    refine pLi fun _ _ hs => ?_
    have s := s.sub hs
    refine pLit1 s (by simp [liI]) (by omega) fun _ _ _ _ _ _ s => ?_
    refine fillI ⟨18, 7, 0, 0, 0⟩ _ rfl rfl rfl (pJump s (by omega) fun _ _ _ _ s => ?_)
    refine pLi fun _ _ hs => ?_
    have s := s.sub hs
    refine pTh fun _ _ hs => ?_
    have s := s.sub hs
    refine pLit2 s (by simp [liI]) (by omega) fun _ _ _ _ _ _ s => ?_
    refine ldH s.hb (entry_spec fun _ _ _ hs hx => ?_)
    have s := s.sub hs
    have he : (entryL h).length = 4 := rfl
    refine pAdd s hx (by omega) (by simp [entryL, liI]) (by omega) fun _ _ _ _ s => ?_
    refine pLd fun _ _ hs => ?_
    have s := s.sub hs
    refine pLd fun _ _ hs => ?_
    have s := s.sub hs
    refine pSt fun _ _ hs => ?_
    have s := s.sub hs
    refine pCl fun _ _ hs => ?_
    have s := s.sub hs
    refine pLit4 s (by simp [liI]) (by omega) fun _ _ _ _ _ _ s => ?_
    refine fillOp 17 (pJump s (by omega) fun _ _ _ _ s => pHere s fun _ _ _ _ s => ?_)
    refine ldH s.hb (nought_spec fun _ _ _ hs hx => ?_)
    have s := s.sub hs
    have hn6 : (noughtL h).length = 6 := rfl
    refine pAdd s hx (by omega) (by simp [noughtL, liI]) (by omega) fun _ _ _ _ s => ?_
    exact aRet_of (Sub.refl _) (hK _ _ _ s.b s.u (s.bk.up (by omega) (by omega)))
  · have e : backB h B = B := if_neg hG
    rw [e] at hK
    exact kSplit_t (by simp [hG]) (aRet_of (Sub.refl _) (hK _ _ _ s.b s.u (s.bk.up (by omega) (by omega))))
theorem rBack_spec {K : Cont} (hB : RbH g fp lb B) (hk : Bk k m B) (hk2 : k + 19 ≤ 1000000) (hm2 : m + 2 ≤ 1000000) (hK : ∀ g' n' fp', RbH g' fp' lb (backB h B) → Upd fp fp' g g' → K (.tuple #[]) g' n') : AC bellowsref24_Back_id [ptr lb 0, .agg (encH h).toArray] g n K := by
  refine ACalls.fold X0_mono ?_
  rw [← bellowsref24_Back_eq]
  simp only [bellowsref24_Back, kAgg_a]
  intro hn
  have s := St.rinit (h := h) hB hn hk
  generalize upd g n (some (.cells (encH h) .exact)) = g1 at s
  refine ldH s.hb (rGoodH_spec fun _ _ hs => ?_)
  have s := s.rsub hs
  rw [kUn_not]
  by_cases hG : GoodH h
  · refine kSplit_f (by simp [hG]) ?_
    have e : backB h B = _ := if_pos hG
    rw [e] at hK
    refine qMark s (by omega) fun _ _ _ s => qMark s (by omega) fun _ _ _ s => qHere s fun _ _ _ _ s => ?_
    refine qLi fun _ _ hs => ?_
    have s := s.rsub hs
    refine qLit1 s (by simp [liI]) (by omega) fun _ _ _ _ _ _ s => ?_
    refine qOp fun _ _ hs => ?_
    have s := s.rsub hs
    refine qJump s (by omega) fun _ _ _ _ s => ?_
    refine qLi fun _ _ hs => ?_
    have s := s.rsub hs
    refine qOp fun _ _ hs => ?_
    have s := s.rsub hs
    refine qLit2 s (by simp [liI]) (by omega) fun _ _ _ _ _ _ s => ?_
    refine ldH s.hb (rEnt_spec s.b s.bk (by omega) fun _ _ _ _ hb' u' hk' => ?_)
    have s := s.move hb' u' hk'
    refine qMem fun _ _ hs => ?_
    have s := s.rsub hs
    refine qMem fun _ _ hs => ?_
    have s := s.rsub hs
    refine qMem fun _ _ hs => ?_
    have s := s.rsub hs
    refine qMem fun _ _ hs => ?_
    have s := s.rsub hs
    refine qLit4 s (by simp [liI]) (by omega) fun _ _ _ _ _ _ s => ?_
    refine fillOp 17 (qJump s (by omega) fun _ _ _ _ s => qHere s fun _ _ _ _ s => ?_)
    refine qOp fun _ _ hs => ?_
    have s := s.rsub hs
    refine qLit1 s (by simp [liI]) (by omega) fun _ _ _ _ _ _ s => ?_
    refine ldH s.hb (rCountT_spec s.b s.bk (by omega) fun _ _ _ _ hb' u' => ?_)
    rw [Bd.add_add] at hb'
    exact aRet_of (Sub.refl _) (hK _ _ _ hb' (s.u.trans u'))
  · have e : backB h B = B := if_neg hG
    rw [e] at hK
    exact kSplit_t (by simp [hG]) (aRet_of (Sub.refl _) (hK _ _ _ s.b s.u))
/-! ## Recover -/
def recB (h : Hp) : Bd := (backB h (B0.add [liI 6 (countH h), ⟨8, 7, 6, 0, 0⟩])).add [⟨22, 0, 0, 0, 0⟩]
def recD (h : Hp) : List Int × Int := if GoodH h then (recB h).done else ([], 1)
theorem words_all : ∀ (l : List Ins), (∀ i ∈ l, goodI i = true) → (words l).2 = true
  | [], _ => rfl
  | i :: r, H => by
    unfold words
    rw [if_pos (H i (by simp))]
    exact words_all r fun j hj => H j (by simp [hj])
theorem goodI_li {r x : Int} (hr : 0 ≤ r ∧ r ≤ 7) (h0 : 0 ≤ x) (h1 : x < 1000000) : goodI (liI r x) = true := by
  have e : IntKind.i64.wrap x = x := wrap64_of (by omega) (by omega)
  have e1 : hasL 1 65 = true := by decide
  have e2 : hasL 1 66 = false := by decide
  have e3 : hasL 1 67 = false := by decide
  have e4 : hasL 1 73 = true := by decide
  simp only [goodI, liI, e, e1, e2, e3, e4, regOk, immOk]
  simp
  omega
theorem addrA_le (a b : Int) : 0 ≤ addrA a b ∧ addrA a b < 1000000 := by unfold addrA; split <;> omega
theorem countH_le (h : Hp) : 0 ≤ countH h ∧ countH h < 1000000 := by unfold countH; split; exact addrA_le _ _; omega
theorem entryH_le (h : Hp) : 0 ≤ entryH h ∧ entryH h < 1000000 := by unfold entryH; split; exact addrA_le _ _; omega
theorem rec_items (hG : GoodH h) : (recB h).bad = false ∧ (recB h).marks = [2, 15] ∧ (recB h).items = [(liI 6 (countH h), -1), (⟨8, 7, 6, 0, 0⟩, -1), (liI 0 0, -1), (⟨18, 7, 0, 0, 0⟩, 1), (liI 0 1, -1), (⟨3, 7, 7, 0, 0⟩, -1), (liI 0 4, -1), (⟨6, 6, 7, 0, 0⟩, -1), (liI 0 (entryH h), -1), (⟨2, 6, 6, 0, 0⟩, -1), (⟨8, 1, 6, 0, 0⟩, -1), (⟨8, 4, 6, 0, 8⟩, -1), (⟨9, 4, 1, 0, 0⟩, -1), (⟨12, 0, 1, 0, 0⟩, -1), (⟨17, 0, 0, 0, 0⟩, 0), (⟨15, 0, 0, 0, 0⟩, -1), (liI 6 (countH h), -1), (liI 0 0, -1), (⟨9, 0, 6, 0, 0⟩, -1), (⟨12, 0, 6, 0, 0⟩, -1), (⟨15, 0, 0, 0, 0⟩, -1), (⟨22, 0, 0, 0, 0⟩, -1)] := by
  unfold recB backB
  rw [if_pos hG]
  exact ⟨rfl, rfl, rfl⟩
theorem rec_ok (hG : GoodH h) : (recB h).done.2 = 0 := by
  obtain ⟨h1, h2, h3⟩ := rec_items hG
  have hc := countH_le h
  have he := entryH_le h
  have hw : (words ((recB h).items.map (recB h).fix)).2 = true := by
    apply words_all
    rw [h3]
    simp only [List.map_cons, List.map_nil, List.mem_cons, List.not_mem_nil, or_false, Bd.fix, h2]
    intro i hi
    rcases hi with hi | hi | hi | hi | hi | hi | hi | hi | hi | hi | hi | hi | hi | hi | hi | hi | hi | hi | hi | hi | hi | hi <;> subst hi <;> first | exact goodI_li (by omega) (by omega) (by omega) | decide
  unfold Bd.done
  rw [if_neg (by rw [h1]; decide), if_neg (by rw [h3, h2]; exact Bool.false_ne_true), if_neg (by rw [hw]; decide), if_neg (by rw [h3]; exact (show ¬ (4096 < 22) by decide))]
theorem recD_snd (h : Hp) (hG : GoodH h) : (recD h).2 = 0 := by unfold recD; rw [if_pos hG]; exact rec_ok hG
theorem Bd.done_len (hG : GoodH h) : (recB h).done.1.length = 22 := by
  obtain ⟨h1, h2, h3⟩ := rec_items hG
  have h5 := rec_ok hG
  unfold Bd.done at h5 ⊢
  rw [if_neg (by rw [h1]; decide), if_neg (by rw [h3, h2]; exact Bool.false_ne_true)] at h5 ⊢
  split at h5
  · cases h5
  · rename_i hw
    rw [if_neg hw, if_neg (by rw [h3]; exact (show ¬ (4096 < 22) by decide))]
    show (words ((recB h).items.map (recB h).fix)).1.length = 22
    rw [words_len _ (by simpa using hw), List.length_map, h3]; rfl
theorem Recover_spec {K : Cont} (hK : DoneK g (recD h) K) : AC undo_Recover_id [.agg (encH h).toArray] g n K := by
  refine ACalls.fold X0_mono ?_
  rw [← undo_Recover_eq]
  simp only [undo_Recover, kAgg_a]
  intro hn
  have hb : upd g n (some (.cells (encH h) .exact)) n = some (.cells (encH h) .exact) := upd_same _ _ _
  have h1s := (Sub.refl g).new hn (some (.cells (encH h) .exact))
  generalize upd g n (some (.cells (encH h) .exact)) = g1 at hb h1s
  refine ldH hb (GoodH_spec fun g2 n2 hs => ?_)
  have s2 := h1s.trans hs
  rw [kUn_not]
  by_cases hG : GoodH h
  · have e : recD h = (recB h).done := if_pos hG
    rw [e] at hK
    refine kSplit_f (by simp [hG]) (fun hn2 => ?_)
    have hB0 := bd_new hn2
    have s3 := (Sub.refl g2).new hn2 (some (.cells [(.slice none 0 0), (.slice none 0 0), (.slice none 0 0), (.bool false)] .exact))
    have hh : upd g2 n2 (some (.cells [(.slice none 0 0), (.slice none 0 0), (.slice none 0 0), (.bool false)] .exact)) n = some (.cells (encH h) .exact) := s3.live (hs.live hb)
    have hne : n ∉ [n2] := fun hm => by
      rw [List.mem_singleton.1 hm] at hb
      rw [hs.live hb] at hn2; cases hn2
    have s : St BdH _ [n2] n2 n h _ [n2] B0 0 0 := ⟨hB0, Upd.refl _ _, hh, hne, B0_ok, Nat.le_refl _, Nat.le_refl _⟩
    have ss := s2.trans s3
    have hg0 : ∀ l ∈ [n2], g l = none := fun l hl => by rw [List.mem_singleton.1 hl]; exact s2.none hn2
    show kLdN (upd g2 n2 (some (.cells [(.slice none 0 0), (.slice none 0 0), (.slice none 0 0), (.bool false)] .exact))) n 0 9 _
    generalize upd g2 n2 (some (.cells [(.slice none 0 0), (.slice none 0 0), (.slice none 0 0), (.bool false)] .exact)) = g3 at s ss
    refine ldH s.hb (Count_spec fun _ _ hs => ?_)
    have s := s.sub hs
    refine pLi fun _ _ hs => ?_
    have s := s.sub hs
    refine pLd fun _ _ hs => ?_
    have s := s.sub hs
    refine pLit2 s (by simp [liI]) (by omega) fun _ _ _ _ _ _ s => ?_
    refine ldH s.hb (Back_spec s.b s.bk (by omega) (by omega) fun _ _ _ hb' u' hk' => ?_)
    have s := s.move hb' u' hk'
    refine fillOp 22 (pLit1 s (by simp) (by omega) fun _ _ _ _ _ _ s => ?_)
    refine Done_spec s.b s.bk.1 fun v g9 n9 h9 ho hbk => ?_
    have sub := Upd.subOf ss hg0 s.u
    refine aRet_of (Sub.refl _) (hK _ _ _ (sub.1.trans h9) ho fun l hl => sub.1.none (hbk l hl))
  · have e : recD h = ([], 1) := if_neg hG
    rw [e] at hK
    exact kSplit_t (by simp [hG]) (aRet_of (Sub.refl _) (hK _ _ _ s2 OwnS.nil (by simp [blks, blkOf])))
theorem backB_bk (hk : Bk k m B) (hk2 : k + 19 ≤ 1000000) : Bk (k + 19) (m + 2) (backB h B) := by
  unfold backB
  split
  · have a1 := ((hk.mark.mark.here B.marks.length).add (ys := [liI 0 0]) (by simp [liI]) (by simp; omega)).jump ⟨18, 7, 0, 0, 0⟩ B.mark.marks.length (by simp; omega)
    have a2 := (a1.add (ys := [liI 0 1, ⟨3, 7, 7, 0, 0⟩]) (by simp [liI]) (by simp; omega)).add (ys := entryL h) (by simp [entryL, liI]) (by simp [entryL]; omega)
    have a3 := ((a2.add (ys := [⟨8, 1, 6, 0, 0⟩, ⟨8, 4, 6, 0, 8⟩, ⟨9, 4, 1, 0, 0⟩, ⟨12, 0, 1, 0, 0⟩]) (by simp) (by simp [entryL]; omega)).jump ⟨17, 0, 0, 0, 0⟩ B.marks.length (by simp [entryL]; omega)).here B.mark.marks.length
    exact a3.add (ys := noughtL h) (by simp [noughtL, liI]) (by simp [noughtL, entryL]; omega)
  · exact hk.up (by omega) (by omega)
theorem rRecover_spec {K : Cont} (hK : DoneK g (recD h) K) : AC bellowsref24_Recover_id [.agg (encH h).toArray] g n K := by
  refine ACalls.fold X0_mono ?_
  rw [← bellowsref24_Recover_eq]
  simp only [bellowsref24_Recover, kAgg_a]
  intro hn
  have hb : upd g n (some (.cells (encH h) .exact)) n = some (.cells (encH h) .exact) := upd_same _ _ _
  have h1s := (Sub.refl g).new hn (some (.cells (encH h) .exact))
  generalize upd g n (some (.cells (encH h) .exact)) = g1 at hb h1s
  refine ldH hb (rGoodH_spec fun g2 n2 hs => ?_)
  have s2 := h1s.trans hs
  rw [kUn_not]
  by_cases hG : GoodH h
  · have e : recD h = (recB h).done := if_pos hG
    have e0 := rec_ok hG
    rw [e] at hK
    refine kSplit_f (by simp [hG]) (fun hn2 => ?_)
    have hB0 := rb_new hn2
    have s3 := (Sub.refl g2).new hn2 (some (.cells [(.slice none 0 0), (.slice none 0 0), (.bool false)] .exact))
    have hh : upd g2 n2 (some (.cells [(.slice none 0 0), (.slice none 0 0), (.bool false)] .exact)) n = some (.cells (encH h) .exact) := s3.live (hs.live hb)
    have hne : n ∉ [n2] := fun hm => by
      rw [List.mem_singleton.1 hm] at hb
      rw [hs.live hb] at hn2; cases hn2
    have s : St RbH _ [n2] n2 n h _ [n2] B0 0 0 := ⟨hB0, Upd.refl _ _, hh, hne, B0_ok, Nat.le_refl _, Nat.le_refl _⟩
    have ss := s2.trans s3
    have hg0 : ∀ l ∈ [n2], g l = none := fun l hl => by rw [List.mem_singleton.1 hl]; exact s2.none hn2
    show kLdN (upd g2 n2 (some (.cells [(.slice none 0 0), (.slice none 0 0), (.bool false)] .exact))) n 0 9 _
    generalize upd g2 n2 (some (.cells [(.slice none 0 0), (.slice none 0 0), (.bool false)] .exact)) = g3 at s ss
    refine ldH s.hb (rCount_spec fun _ _ hs => ?_)
    have s := s.rsub hs
    refine qLi fun _ _ hs => ?_
    have s := s.rsub hs
    refine qMem fun _ _ hs => ?_
    have s := s.rsub hs
    refine qLit2 s (by simp [liI]) (by omega) fun _ _ _ _ _ _ s => ?_
    refine ldH s.hb (rBack_spec s.b s.bk (by omega) (by omega) fun _ _ _ hb' u' => ?_)
    have s := s.move hb' u' (backB_bk s.bk (by omega))
    refine qOp fun _ _ hs => ?_
    have s := s.rsub hs
    refine qLit1 s (by simp) (by omega) fun _ _ _ _ _ _ s => ?_
    refine rDone_spec s.b s.bk.1 fun v g9 n9 h9 ho hbk => ?_
    have sub := Upd.subOf ss hg0 s.u
    have hK' := hK v g9 n9 (sub.1.trans h9) ho fun l hl => sub.1.none (hbk l hl)
    rw [e0] at hK'
    refine aRet_of (Sub.refl _) hK'
  · have e : recD h = ([], 1) := if_neg hG
    rw [e] at hK
    exact kSplit_t (by simp [hG]) (aRet_of (Sub.refl _) (hK _ _ _ s2 OwnS.nil (by simp [blks, blkOf])))
end Go.Proofs.YtecojalpbppfeaaGreat.Gen

namespace Go.Proofs.YtecojalpbppfeaaGreat.Gen
open Go Go.Proofs.YtecojalpbppfeaaGreat.Abs Go.RowKit
/-! ## lines in which words lie -/
def keyH (h : Hp) (w : Int) : Int := 64 * (h.vol + 1 + h.log + w / 8)
def keysW (h : Hp) (ws : List Int) : List Int := (ws.filter fun w => decide (0 ≤ w ∧ w < 8 * h.hl)).map (keyH h)
def lineL (h : Hp) (ws : List Int) : List Int := ((List.range h.hl.toNat).filter fun l : Nat => decide (∃ w ∈ ws, 8 * (l : Int) ≤ w ∧ w < 8 * (l : Int) + 8)).map fun l : Nat => 64 * (h.vol + 1 + h.log + (l : Int))
def clL (ks : List Int) : List Ins := ks.flatMap fun a => [liI 1 a, ⟨12, 0, 1, 0, 0⟩]
def commitB (h : Hp) (ws : List Int) (B : Bd) : Bd := if GoodH h then (B.add (clL (lineL h ws))).add (noughtL h) else B
theorem mem_lineL {h : Hp} {ws : List Int} {a : Int} : a ∈ lineL h ws ↔ a ∈ keysW h ws := by
  simp only [lineL, keysW, List.mem_map, List.mem_filter, List.mem_range, decide_eq_true_eq, keyH]
  constructor
  · rintro ⟨l, ⟨hl, w, hw, h1, h2⟩, rfl⟩
    exact ⟨w, ⟨hw, by omega, by omega⟩, by rw [show w / 8 = (l : Int) by omega]⟩
  · rintro ⟨w, ⟨hw, h1, h2⟩, rfl⟩
    refine ⟨(w / 8).toNat, ⟨by omega, w, hw, by omega, by omega⟩, ?_⟩
    rw [show (((w / 8).toNat : Nat) : Int) = w / 8 by omega]
theorem lineL_srt (h : Hp) (ws : List Int) : (lineL h ws).Pairwise (· < ·) := by
  unfold lineL
  rw [List.pairwise_map]
  refine List.Pairwise.imp (R := fun a b : Nat => a < b) (by intro a b hab; omega) ?_
  exact List.Pairwise.filter _ List.pairwise_lt_range
theorem lineL_len (h : Hp) (hG : GoodH h) (ws : List Int) : (lineL h ws).length ≤ 16 := by
  unfold lineL
  rw [List.length_map]
  refine Nat.le_trans (List.length_filter_le _ _) ?_
  rw [List.length_range]
  obtain ⟨_, _, _, _, h10, _⟩ := hG
  omega
theorem srt_eq : ∀ (a b : List Int), a.Pairwise (· < ·) → b.Pairwise (· < ·) → (∀ x, x ∈ a ↔ x ∈ b) → a = b
  | [], [], _, _, _ => rfl
  | [], y :: s, _, _, h => absurd ((h y).2 (by simp)) (by simp)
  | x :: r, [], _, _, h => absurd ((h x).1 (by simp)) (by simp)
  | x :: r, y :: s, ha, hb, h => by
    rw [List.pairwise_cons] at ha hb
    have e : x = y := by
      have h1 := (h x).1 (by simp)
      have h2 := (h y).2 (by simp)
      rcases List.mem_cons.1 h1 with h1 | h1
      · exact h1
      · rcases List.mem_cons.1 h2 with h2 | h2
        · exact h2.symm
        · have := hb.1 x h1; have := ha.1 y h2; omega
    subst e
    rw [srt_eq r s ha.2 hb.2 fun z => ?_]
    constructor
    · intro hz
      rcases List.mem_cons.1 ((h z).1 (by simp [hz])) with e | e
      · have := ha.1 z hz; omega
      · exact e
    · intro hz
      rcases List.mem_cons.1 ((h z).2 (by simp [hz])) with e | e
      · have := hb.1 z hz; omega
      · exact e
theorem srt_pw {ys : List Int} (hs : SrtW 0 ys.length ys) (hn : ys.Nodup) : ys.Pairwise (· < ·) := by
  rw [List.pairwise_iff_getElem]
  intro i j hi hj hij
  have h1 := hs i j (Nat.zero_le _) (by omega) hj
  simp only [List.getD_eq_getElem?_getD, List.getElem?_eq_getElem hi, List.getElem?_eq_getElem hj, Option.getD_some] at h1
  have h2 : ys[i] ≠ ys[j] := fun e => by
    have := (List.nodup_iff_pairwise_ne.1 hn)
    rw [List.pairwise_iff_getElem] at this
    exact this i j hi hj hij e
  omega
theorem nodup_len {α : Type} [BEq α] [LawfulBEq α] : ∀ (l m : List α), l.Nodup → (∀ x ∈ l, x ∈ m) → l.length ≤ m.length
  | [], m, _, _ => by simp
  | a :: r, m, hn, hs => by
    rw [List.nodup_cons] at hn
    have ha := hs a (by simp)
    have ih := nodup_len r (m.erase a) hn.2 fun x hx => by
      rw [List.mem_erase_of_ne (fun e : x = a => hn.1 (e ▸ hx))]
      exact hs x (by simp [hx])
    rw [List.length_erase_of_mem ha] at ih
    have := List.length_pos_of_mem ha
    simp only [List.length_cons]; omega
/-- what is collected and sorted is the list of the lines -/
theorem sorted_is {h : Hp} {ws out ys : List Int} (hn : out.Nodup) (hm : ∀ a, a ∈ out ↔ a ∈ keysW h ws) (hp : ys.Perm out) (hs : SrtW 0 ys.length ys) : ys = lineL h ws := by
  refine srt_eq _ _ (srt_pw hs ((hp.nodup_iff).2 hn)) (lineL_srt h ws) fun x => ?_
  rw [hp.mem_iff, hm, mem_lineL]
/-! ## maps -/
section
variable {α : Type}
theorem mput_fst (ms : List (Int × α)) (a : Int) (x : α) (b : Int) : b ∈ (mput ms a x).map Prod.fst ↔ b = a ∨ b ∈ ms.map Prod.fst := by
  induction ms with
  | nil => simp [mput]
  | cons p r ih =>
    simp only [mput]
    split
    · rename_i e; simp only [List.map_cons, List.mem_cons]; rw [e]
      constructor
      · rintro (h | h); exact .inl h; exact .inr (.inr h)
      · rintro (h | h | h); exact .inl h; exact .inl h; exact .inr h
    · simp only [List.map_cons, List.mem_cons, ih]
      constructor
      · rintro (h | h | h); exact .inr (.inl h); exact .inl h; exact .inr (.inr h)
      · rintro (h | h | h); exact .inr (.inl h); exact .inl h; exact .inr (.inr h)
theorem mput_nd (ms : List (Int × α)) (a : Int) (x : α) (h : (ms.map Prod.fst).Nodup) : ((mput ms a x).map Prod.fst).Nodup := by
  induction ms with
  | nil => simp [mput]
  | cons p r ih =>
    simp only [List.map_cons, List.nodup_cons] at h
    simp only [mput]
    split
    · rename_i e; simp only [List.map_cons, List.nodup_cons]; rw [e]; exact h
    · rename_i e
      simp only [List.map_cons, List.nodup_cons]
      refine ⟨fun hm => ?_, ih h.2⟩
      rcases (mput_fst r a x p.1).1 hm with h1 | h1
      · exact e h1.symm
      · exact h.1 h1
end
theorem kIter_o {g : G} {p l : Nat} {es : List (Value × Value)} {seen : List Nat} {K : Nat → Nat → List (Value × Value) → List Nat → Prop} (h1 : g p = some (.iter l es.length seen)) (h2 : g l = some (.map es)) (k : K p l es seen) : kIter (ptr p 0) g K := by
  show (match g p with | some (.iter l cnt seen) => kMap g l fun es => es.length = cnt ∧ K p l es seen | _ => False)
  rw [h1]
  show kMap g l _
  unfold kMap; rw [h2]
  exact ⟨rfl, k⟩
def evJ (i : Int) : Value := .int .i64 i
theorem clL_take {ys : List Int} {j : Nat} {a : Int} (h : ys[j]? = some a) : clL (ys.take (j + 1)) = clL (ys.take j) ++ [liI 1 a, ⟨12, 0, 1, 0, 0⟩] := by
  rw [List.take_add_one, h]; simp [clL]
theorem clL_len (ks : List Int) : (clL ks).length = 2 * ks.length := by
  induction ks with
  | nil => rfl
  | cons a r ih => simp only [clL, List.flatMap_cons, List.length_append, List.length_cons, List.length_nil] at *; omega
theorem clL_ops (ks : List Int) : ∀ i ∈ clL ks, 0 ≤ i.op ∧ i.op ≤ 22 := by
  intro i hi
  simp only [clL, List.mem_flatMap, List.mem_cons, List.not_mem_nil, or_false] at hi
  obtain ⟨a, _, rfl | rfl⟩ := hi <;> simp [liI]
theorem Bd.add_nil (B : Bd) : B.add [] = B := by simp [Bd.add]
theorem keysW_take {h : Hp} {ws : List Int} {j : Nat} {w : Int} (hw : ws[j]? = some w) : keysW h (ws.take (j + 1)) = keysW h (ws.take j) ++ (if 0 ≤ w ∧ w < 8 * h.hl then [keyH h w] else []) := by
  rw [List.take_add_one, hw]
  simp only [keysW, List.filter_append, List.map_append, Option.toList_some, List.filter_cons, List.filter_nil]
  split <;> rename_i h1 <;> simp at h1
  · rw [if_pos h1]; rfl
  · rw [if_neg (by omega)]; rfl
end Go.Proofs.YtecojalpbppfeaaGreat.Gen

namespace Go.Proofs.YtecojalpbppfeaaGreat.Gen
open Go Go.Proofs.YtecojalpbppfeaaGreat.Abs Go.RowKit
variable {g : G} {n : Nat}
variable {fp : List Nat} {lb k m : Nat} {h : Hp} {B : Bd} {w f : Int}
theorem word_key (hG : GoodH h) (h0 : 0 ≤ w) (h1 : w < 8 * h.hl) : IntKind.u64.wrap (IntKind.u64.wrap ((wordH h w).tdiv 64) * 64) = keyH h w := by
  obtain ⟨⟨_, _, _, h4, h5, h6, _⟩, h7, h8, h9, h10, h11⟩ := id hG
  unfold wordH keyH addrA
  rw [if_pos ⟨hG, h0, h1⟩, if_pos (by omega), Int.tdiv_eq_ediv_of_nonneg (by omega), show (64 * (h.vol + 1 + h.log + w / 8) + 8 * (w % 8)) / 64 = h.vol + 1 + h.log + w / 8 by omega, @wU (h.vol + 1 + h.log + w / 8) (by omega) (by omega), wU (by omega) (by omega)]
  omega
theorem rangeStep {α : Type} {ms : List (Int × α)} {i : Nat} {kv : Value × Value} {ev : α → Value} {kk : IntKind} (h : (MpE ev kk ms)[i]? = some kv) : ∃ a x, ms[i]? = some (a, x) ∧ kv = (.int kk a, ev x) := by
  simp only [MpE, List.getElem?_map] at h
  cases hq : ms[i]? with
  | none => rw [hq] at h; cases h
  | some p => rw [hq] at h; simp at h; exact ⟨p.1, p.2, rfl, h.symm⟩
theorem nodup_sel {ks : List Int} {seen : List Nat} (hk : ks.Nodup) (hs : seen.Nodup) (hlt : ∀ i ∈ seen, i < ks.length) : (seen.map fun i => ks.getD i 0).Nodup := by
  rw [List.nodup_iff_pairwise_ne, List.pairwise_map]
  rw [List.nodup_iff_pairwise_ne] at hs
  refine hs.imp_of_mem fun {a b} ha hb hab e => hab ?_
  have h1 := hlt a ha
  have h2 := hlt b hb
  simp only [List.getD_eq_getElem?_getD, List.getElem?_eq_getElem h1, List.getElem?_eq_getElem h2, Option.getD_some] at e
  rw [List.nodup_iff_pairwise_ne, List.pairwise_iff_getElem] at hk
  rcases Nat.lt_trichotomy a b with h | h | h
  · exact absurd e (hk a b h1 h2 h)
  · exact h
  · exact absurd e.symm (hk b a h2 h1 h)
theorem mem_sel {ks : List Int} {seen : List Nat} (hlt : ∀ i ∈ seen, i < ks.length) (hall : ∀ i, i < ks.length → i ∈ seen) (a : Int) : a ∈ (seen.map fun i => ks.getD i 0) ↔ a ∈ ks := by
  simp only [List.mem_map]
  constructor
  · rintro ⟨i, hi, rfl⟩
    have h1 := hlt i hi
    simp only [List.getD_eq_getElem?_getD, List.getElem?_eq_getElem h1, Option.getD_some]
    exact List.getElem_mem h1
  · intro ha
    obtain ⟨i, hi, rfl⟩ := List.mem_iff_getElem.1 ha
    exact ⟨i, hall i hi, by simp only [List.getD_eq_getElem?_getD, List.getElem?_eq_getElem hi, Option.getD_some]⟩
theorem St.base {H : G → List Nat → Nat → Bd → Prop} {g0 : G} {fp0 : List Nat} {l5 : Nat} (s : St H g0 fp0 lb l5 h g fp B k m) : St H g fp lb l5 h g fp B k m := ⟨s.b, Upd.refl _ _, s.hb, s.hn, s.bk⟩
theorem Commit_l5 {g0 : G} {fp0 : List Nat} {l5 : Nat} {x : Value} {ys ws : List Int} {t : Env} {K : Cont} (s : St BdH g0 fp0 lb l5 h g fp B k m) (hx : OwnS encW 1 none0 g x ys) (hf : ys ≠ [] → ∀ l ∈ blks x, l ∉ fp) (h16 : ys.length ≤ 16) (hk2 : k + 38 ≤ 1000000) (ey : ys = lineL h ws)
    (hK : ∀ g' n' fp', BdH g' fp' lb ((B.add (clL (lineL h ws))).add (noughtL h)) → Upd fp0 fp' g0 g' → Bk (k + 38) m ((B.add (clL (lineL h ws))).add (noughtL h)) → K (.tuple #[]) g' n')
    (t0 : t 0 = ptr lb 0) (t4 : t 4 = ptr l5 0) (t56 : t 56 = x) (t57 : t 57 = .int .i64 (ys.length : Nat)) (t58 : t 58 = .int .i64 0) : lfp (undo_Commit_l5 AC K) t g n := by
  refine lfp_ind (m := ys.length) (Inv := fun mm t g5 n5 => ∃ (j : Nat) (fp5 : List Nat), mm + j = ys.length ∧ t 0 = ptr lb 0 ∧ t 4 = ptr l5 0 ∧ t 56 = x ∧ t 57 = .int .i64 (ys.length : Nat) ∧ t 58 = .int .i64 (j : Nat) ∧
    St BdH g0 fp0 lb l5 h g5 fp5 (B.add (clL (ys.take j))) (k + 2 * j) m ∧ OwnS encW 1 none0 g5 x ys ∧ (ys ≠ [] → ∀ l ∈ blks x, l ∉ fp5)) ?_ ⟨0, fp, by simp, t0, t4, t56, t57, t58, by simpa [clL, Bd.add_nil] using s, hx, hf⟩
  rintro I mm t g5 n5 ih ⟨j, fp5, hm, t0, t4, t56, t57, t58, s, hx, hf⟩
  simp only [undo_Commit_l5, t0, t4, t56, t57, t58, kBin_lss]
  refine kSplit_d (fun hj => ?_) (fun hj => ?_)
  · have hj : j < ys.length := by omega
    have hne : ys ≠ [] := fun e => by rw [e] at hj; simp at hj
    have hget := List.getElem?_eq_getElem hj
    generalize ys[j] = a at hget
    have hct := clL_take hget
    refine hx.sl.idx encW_len hget (fun l o ha => ?_)
    simp only [kPtr_p]
    refine ha.ld (i := 0) rfl (pLi fun g6 n6 s6 => pCl fun g7 n7 s7 => ?_)
    have hs := s6.trans s7
    have sb := (s.sub hs).base
    refine pLit2 sb (by simp [liI]) (by omega) fun _ _ _ g8 n8 fp8 s8 => ?_
    rw [kBin_add, wrapNat (by omega)]
    refine ih (mm - 1) _ _ _ (by omega) ⟨j + 1, fp8, by omega, t0, t4, t56, t57, rfl, ?_, ?_, fun _ l hl hm8 => ?_⟩
    · rw [hct, ← Bd.add_add]
      exact ⟨s8.b, (s.sub hs).u.trans s8.u, s8.hb, s8.hn, s8.bk.up (by omega) (Nat.le_refl _)⟩
    · exact (hx.mono hs).keepB fun l b h1 h2 => s8.u.1 l b h1 (hf hne l h2)
    · rcases s8.u.2 l hm8 with h1 | h1
      · exact hf hne l hl h1
      · obtain ⟨b, hb⟩ := hx.there l hl (by omega)
        rw [hs.live hb] at h1; cases h1
  · have hje : ys.take j = ys := List.take_of_length_le (by omega)
    rw [hje, ey] at s
    simp only [undo_Commit_j6]
    show kPtr (t 4) _
    rw [t4]
    simp only [kPtr_p]
    refine ldH s.hb (nought_spec fun _ _ _ hs hx => ?_)
    have s := s.sub hs
    have hn6 : (noughtL h).length = 6 := rfl
    show AC emit_Builder_Add_id [t 0, _] _ _ _
    rw [t0]
    refine pAdd s hx (by omega) (by simp [noughtL, liI]) (by omega) fun _ _ _ _ s => ?_
    exact aRet_of (Sub.refl _) (hK _ _ _ s.b s.u (s.bk.up (by omega) (Nat.le_refl _)))
theorem Commit_l3 {g0 : G} {fp0 : List Nat} {l5 n2 n4 : Nat} {ws : List Int} {ms : List (Int × Int)} {t : Env} {K : Cont} (hG : GoodH h) (s : St BdH g0 fp0 lb l5 h g fp B k m) (hk2 : k + 38 ≤ 1000000)
    (hmp : g n2 = some (.map (MpE evJ .u64 ms))) (hnd : (ms.map Prod.fst).Nodup) (hmem : ∀ a, a ∈ ms.map Prod.fst ↔ a ∈ keysW h ws) (hn4 : g n4 = none)
    (hK : ∀ g' n' fp', BdH g' fp' lb ((B.add (clL (lineL h ws))).add (noughtL h)) → Upd fp0 fp' g0 g' → Bk (k + 38) m ((B.add (clL (lineL h ws))).add (noughtL h)) → K (.tuple #[]) g' n')
    (t0 : t 0 = ptr lb 0) (t4 : t 4 = ptr l5 0) (t9 : t 9 = .slice none 0 0) (t45 : t 45 = ptr n4 0) {n5 : Nat} : lfp (undo_Commit_l3 AC K) t (upd g n4 (some (.iter n2 (MpE evJ .u64 ms).length []))) n5 := by
  have hel : (MpE evJ .u64 ms).length = ms.length := by simp [MpE]
  have hkl : (ms.map Prod.fst).length = ms.length := by simp
  refine lfp_ind (m := ms.length) (Inv := fun mm e g9 n9 => ∃ (seen : List Nat) (out : List Int) (x : Value), mm + seen.length = ms.length ∧ e 0 = ptr lb 0 ∧ e 4 = ptr l5 0 ∧ e 9 = x ∧ e 45 = ptr n4 0 ∧ Sub g g9 ∧ g9 n4 = some (.iter n2 (MpE evJ .u64 ms).length seen) ∧ OwnS encW 1 none0 g9 x out ∧
    (∀ l ∈ blks x, g l = none) ∧ n4 ∉ blks x ∧ seen.Nodup ∧ (∀ i ∈ seen, i < ms.length) ∧ out = seen.map (fun i => (ms.map Prod.fst).getD i 0)) ?_
    ⟨[], [], .slice none 0 0, by simp, t0, t4, t9, t45, (Sub.refl g).new hn4 _, upd_same _ _ _, OwnS.nil, by simp [blks, blkOf], by simp [blks, blkOf], by simp, by simp, rfl⟩
  rintro I mm e g9 n9 ih ⟨seen, out, x, hm, t0, t4, t9, t45, s9, hp9, o9, hfr, hnx, hsn, hlt, hout⟩
  simp only [undo_Commit_l3, t9, t45]
  have hm9 := s9.live hmp
  have hlt' : ∀ i ∈ seen, i < (ms.map Prod.fst).length := fun i hi => by rw [hkl]; exact hlt i hi
  refine kIter_o hp9 hm9 ⟨fun hall => ?_, fun i kv hi hkv => ?_⟩
  · refine kExt (vs := [.bool false]) rfl (kSplit_f rfl ?_)
    have hnd9 : out.Nodup := by rw [hout]; exact nodup_sel hnd hsn hlt'
    have hmm : ∀ a, a ∈ out ↔ a ∈ keysW h ws := fun a => by rw [hout, mem_sel hlt' (fun i hi => hall i (by rw [hel, ← hkl]; exact hi)), hmem]
    have h16 : out.length ≤ 16 := Nat.le_trans (nodup_len out (lineL h ws) hnd9 fun a ha => mem_lineL.2 ((hmm a).1 ha)) (lineL_len h hG ws)
    simp only [undo_Commit_j4]
    show AC slices_Sort_uint64_uint64_id [e 9] g9 n9 _
    rw [t9]
    refine Sort_spec o9 h16 fun ys g11 n11 hpm hsrt hfr11 o11 => ?_
    show kLen (e 9) _
    rw [t9]
    refine o11.sl.len ?_
    have s11 : Sub g g11 := fun l => by
      cases hq : g l with
      | none => exact .inl rfl
      | some b => exact .inr (hfr11 l b (fun hm => by rw [hfr l hm] at hq; cases hq) (s9.live hq)).symm
    refine Commit_l5 (s.sub s11) o11 (fun _ l hl hm => ?_) (by rw [hpm.length_eq]; exact h16) hk2 (sorted_is hnd9 hmm hpm hsrt) hK t0 t4 t9 rfl rfl
    obtain ⟨b, hb⟩ := s.b.live l hm
    rw [hfr l hl] at hb; cases hb
  · obtain ⟨a, y, hay, rfl⟩ := rangeStep hkv
    have hil : i < ms.length := (List.getElem?_eq_some_iff.1 hay).1
    have hpA : upd g9 n4 (some (.iter n2 (MpE evJ .u64 ms).length (seen ++ [i]))) n4 = some (.iter n2 (MpE evJ .u64 ms).length (seen ++ [i])) := upd_same _ _ _
    have sA : Sub g (upd g9 n4 (some (.iter n2 (MpE evJ .u64 ms).length (seen ++ [i])))) := s9.upd_fresh _ hn4
    have oA : OwnS encW 1 none0 (upd g9 n4 (some (.iter n2 (MpE evJ .u64 ms).length (seen ++ [i])))) x out := o9.keepB fun l b h1 h2 => by rw [upd_ne _ _ (fun e : l = n4 => hnx (e ▸ h2))]; exact h1
    generalize upd g9 n4 (some (.iter n2 (MpE evJ .u64 ms).length (seen ++ [i]))) = gA at hpA sA oA
    refine kExt (vs := [.bool true, .int .u64 a, evJ y]) rfl (kSplit_t rfl ?_)
    refine kIter_o hpA (sA.live hmp) ?_
    have el1 : (seen ++ [i]).getLast? = some i := by simp
    simp only [el1]
    show kAt (MpE evJ .u64 ms) i _
    unfold kAt
    rw [hkv]
    refine kExt (vs := [.int .u64 a, evJ y]) rfl ?_
    refine ⟨rfl, by simp [reps], fun hnA => ?_⟩
    have sB := (Sub.refl gA).new hnA (some (.cells (encW a) .exact))
    have hone : Sl encW 1 (upd gA n9 (some (.cells (encW a) .exact))) (.slice (some ⟨n9, 0, none⟩) 1 1) [a] := Sl.one rfl (upd_same _ _ _)
    have hnd' : (seen ++ [i]).Nodup := by
      rw [List.nodup_append]
      exact ⟨hsn, by simp, fun a ha b hb => by simp at hb; subst hb; exact fun e => hi (e ▸ ha)⟩
    have hltn : ∀ j ∈ seen ++ [i], j < ms.length := fun j hj => by
      rcases List.mem_append.1 hj with hj | hj
      · exact hlt j hj
      · simp at hj; subst hj; exact hil
    have hle : (seen ++ [i]).length ≤ (List.range ms.length).length := nodup_len _ _ hnd' fun j hj => List.mem_range.2 (hltn j hj)
    rw [List.length_range, List.length_append, List.length_singleton] at hle
    have holl : out.length = seen.length := by rw [hout, List.length_map]
    have hkk : (ms.map Prod.fst).getD i 0 = a := by simp [List.getD_eq_getElem?_getD, List.getElem?_map, hay]
    have hml : ms.length ≤ 16 := by
      have := nodup_len (ms.map Prod.fst) (lineL h ws) hnd fun a ha => mem_lineL.2 ((hmem a).1 ha)
      rw [hkl] at this
      exact Nat.le_trans this (lineL_len h hG ws)
    refine own_app (g := upd gA n9 (some (.cells (encW a) .exact))) (oA.mono sB) hone encW_cell (by decide) (by simp; omega) (by simp; omega) (by simp) fun x' g' n' ho hk hf => ?_
    refine ih (mm - 1) _ _ _ (by omega) ⟨seen ++ [i], out ++ [a], x', by rw [List.length_append, List.length_singleton]; omega, t0, t4, rfl, t45, fun l => ?_, hk _ _ (sB.live hpA) hnx, ho, fun l hl => sA.none (sB.none (hf l hl)), fun hm4 => ?_, hnd', hltn, by rw [List.map_append, ← hout]; simp only [List.map_cons, List.map_nil, hkk]⟩
    · cases hq : g l with
      | none => exact .inl rfl
      | some b => exact .inr (hk l b (sB.live (sA.live hq)) (fun hm => by rw [hfr l hm] at hq; cases hq)).symm
    · have := hf _ hm4
      rw [sB.live hpA] at this; cases this
theorem Commit_spec {v : Value} {ws : List Int} {K : Cont} (hB : BdH g fp lb B) (hk : Bk k m B) (hk2 : k + 38 ≤ 1000000) (hv : Sl enc1 1 g v ws) (hl : ws.length ≤ 1000000)
    (hK : ∀ g' n' fp', BdH g' fp' lb (commitB h ws B) → Upd fp fp' g g' → Bk (k + 38) m (commitB h ws B) → K (.tuple #[]) g' n') : AC undo_Commit_id [ptr lb 0, .agg (encH h).toArray, v] g n K := by
  refine ACalls.fold X0_mono ?_
  rw [← undo_Commit_eq]
  simp only [undo_Commit, kAgg_a, kBin_p_eql]
  intro hn
  have s := St.init (h := h) hB hn hk
  have sg := (Sub.refl g).new hn (some (.cells (encH h) .exact))
  generalize upd g n (some (.cells (encH h) .exact)) = g1 at s sg
  refine kSplit_f rfl (ldH s.hb (GoodH_spec fun g2 n2 hs => ?_))
  have s := s.sub hs
  have hv2 := hv.mono (sg.trans hs)
  rw [kUn_not]
  by_cases hG : GoodH h
  · have e : commitB h ws B = _ := if_pos hG
    rw [e] at hK
    have ew : wordsH h = 8 * h.hl := by unfold wordsH; rw [if_pos hG]
    refine kSplit_f (by simp [hG]) (fun hn2 => hv2.len ?_)
    refine lfp_ind (m := ws.length) (Inv := fun mm t g4 n4 => ∃ (j : Nat) (ms : List (Int × Int)), mm + j = ws.length ∧ t 0 = ptr lb 0 ∧ t 4 = ptr n 0 ∧ t 6 = .map (some n2) ∧ t 21 = v ∧ t 22 = .int .i64 (ws.length : Nat) ∧ t 23 = .int .i64 (j : Nat) ∧ Sub g2 g4 ∧ g4 n2 = some (.map (MpE evJ .u64 ms)) ∧ (ms.map Prod.fst).Nodup ∧ (∀ a, a ∈ ms.map Prod.fst ↔ a ∈ keysW h (ws.take j))) ?_ ⟨0, [], by simp, rfl, rfl, rfl, rfl, rfl, rfl, (Sub.refl g2).new hn2 _, upd_same _ _ _, by simp, by simp [keysW]⟩
    rintro I mm t g4 n4 ih ⟨j, ms, hm, t0, t4, t6, t21, t22, t23, s4, hmp, hnd, hmem⟩
    simp only [undo_Commit_l1, t4, t6, t21, t22, t23, kBin_lss, kPtr_p]
    have s := s.sub s4
    refine kSplit_d (fun hj => ?_) (fun hj => ?_)
    · have hj : j < ws.length := by omega
      have hget := List.getElem?_eq_getElem hj
      generalize ws[j] = w at hget
      have hkt := keysW_take (h := h) hget
      refine (hv2.mono s4).idx enc1_len hget (fun l o ha => ?_)
      simp only [kPtr_p]
      refine ha.ld (i := 0) rfl ?_
      have go : ∀ (t' : Env) (g' : G) (n' : Nat) (ms' : List (Int × Int)), t' 0 = ptr lb 0 → t' 4 = ptr n 0 → t' 6 = .map (some n2) → t' 21 = v → t' 22 = .int .i64 (ws.length : Nat) → t' 23 = .int .i64 ((j + 1 : Nat) : Int) → Sub g2 g' → g' n2 = some (.map (MpE evJ .u64 ms')) → (ms'.map Prod.fst).Nodup → (∀ a, a ∈ ms'.map Prod.fst ↔ a ∈ keysW h (ws.take (j + 1))) → I t' g' n' :=
        fun t' g' n' ms' q1 q2 q3 q4 q5 q6 q7 q8 q9 q10 => ih (mm - 1) _ _ _ (by omega) ⟨j + 1, ms', by omega, q1, q2, q3, q4, q5, q6, q7, q8, q9, q10⟩
      rw [kBin_geq]
      refine kSplit_d (fun h0 => ?_) (fun h0 => ?_)
      · refine ldH s.hb (Wds_spec fun g5 n5 s5 => ?_)
        have s := s.sub s5
        rw [kBin_lss, ew]
        refine kSplit_d (fun h1 => ?_) (fun h1 => ?_)
        · refine ldH s.hb (Word_spec fun g6 n6 s6 => ?_)
          rw [kBin_quo]
          refine ⟨by decide, ?_⟩
          rw [kBin_mul, word_key hG h0 h1]
          have hmp6 := (s5.trans s6).live hmp
          refine kLookup_m hmp6 ?_
          obtain ⟨y, hy⟩ : ∃ y, optV evJ (.int .i64 0) (mget ms (keyH h w)) = .int .i64 y := by
            cases mget ms (keyH h w) with
            | none => exact ⟨0, rfl⟩
            | some y => exact ⟨y, rfl⟩
          rw [hy, kBin_add]
          refine kMapSet_m (ev := evJ) (x := IntKind.i64.wrap (y + 1)) hmp6 ?_
          rw [kBin_add, wrapNat (by omega)]
          refine go _ _ _ _ t0 t4 t6 t21 t22 rfl ((s4.trans (s5.trans s6)).upd_fresh _ hn2) (upd_same _ _ _) (mput_nd _ _ _ hnd) fun a => ?_
          rw [mput_fst, hkt, if_pos ⟨h0, h1⟩, List.mem_append, hmem]
          simp; constructor
          · rintro (h | h); exact .inr h; exact .inl h
          · rintro (h | h); exact .inr h; exact .inl h
        · rw [kBin_add, wrapNat (by omega)]
          refine go _ _ _ ms t0 t4 t6 t21 t22 rfl (s4.trans s5) (s5.live hmp) hnd fun a => ?_
          rw [hkt, if_neg (fun hh => h1 hh.2), List.append_nil]; exact hmem a
      · rw [kBin_add, wrapNat (by omega)]
        refine go _ _ _ ms t0 t4 t6 t21 t22 rfl s4 hmp hnd fun a => ?_
        rw [hkt, if_neg (fun hh => h0 hh.1), List.append_nil]; exact hmem a
    · have hje : ws.take j = ws := List.take_of_length_le (by omega)
      rw [hje] at hmem
      simp only [undo_Commit_j2]
      show kRange (t 6) g4 n4 _
      rw [t6]
      show kMap g4 n2 _
      unfold kMap; rw [hmp]
      intro hn4
      refine Commit_l3 hG s hk2 hmp hnd hmem hn4 hK ?_ ?_ ?_ ?_
      · exact t0
      · exact t4
      · rfl
      · rfl
  · have e : commitB h ws B = B := if_neg hG
    rw [e] at hK
    exact kSplit_t (by simp [hG]) (aRet_of (Sub.refl _) (hK _ _ _ s.b s.u (s.bk.up (by omega) (Nat.le_refl _))))
end Go.Proofs.YtecojalpbppfeaaGreat.Gen

namespace Go.Proofs.YtecojalpbppfeaaGreat.Gen
open Go Go.Proofs.YtecojalpbppfeaaGreat.Abs Go.RowKit
variable {g : G} {n : Nat}
variable {fp : List Nat} {lb k m : Nat} {h : Hp} {B : Bd} {w f : Int}
/-! ## the document's Commit -/
def inL (l : Nat) (w : Int) : Prop := 8 * (l : Int) ≤ w ∧ w < 8 * (l : Int) + 8
instance (l : Nat) (w : Int) : Decidable (inL l w) := inferInstanceAs (Decidable (_ ∧ _))
def lineN (h : Hp) (ws : List Int) (N : Nat) : List Int := ((List.range N).filter fun l : Nat => decide (∃ w ∈ ws, inL l w)).map fun l : Nat => 64 * (h.vol + 1 + h.log + (l : Int))
theorem lineN_all (h : Hp) (ws : List Int) : lineN h ws h.hl.toNat = lineL h ws := rfl
theorem lineN_succ (h : Hp) (ws : List Int) (N : Nat) : lineN h ws (N + 1) = lineN h ws N ++ (if ∃ w ∈ ws, inL N w then [64 * (h.vol + 1 + h.log + (N : Int))] else []) := by
  unfold lineN
  rw [List.range_succ, List.filter_append, List.map_append]
  congr 1
  simp only [List.filter_cons, List.filter_nil, decide_eq_true_eq]
  split <;> rfl
theorem lineN_len (h : Hp) (ws : List Int) (N : Nat) : (lineN h ws N).length ≤ N := by
  unfold lineN
  rw [List.length_map]
  exact Nat.le_trans (List.length_filter_le _ _) (by rw [List.length_range]; exact Nat.le_refl _)
theorem any_take {ws : List Int} {j l : Nat} {w : Int} (hw : ws[j]? = some w) : (∃ x ∈ ws.take (j + 1), inL l x) ↔ ((∃ x ∈ ws.take j, inL l x) ∨ inL l w) := by
  rw [List.take_add_one, hw]
  simp only [Option.toList_some, List.mem_append, List.mem_singleton]
  constructor
  · rintro ⟨x, hx | rfl, h⟩
    · exact .inl ⟨x, hx, h⟩
    · exact .inr h
  · rintro (⟨x, hx, h⟩ | h)
    · exact ⟨x, .inl hx, h⟩
    · exact ⟨w, .inr rfl, h⟩
theorem rC_l2 {K : Cont} {I0 : ECont} {v : Value} {ws : List Int} {l : Nat} {v0 v4 : Value} {t : Env} (hv : Sl enc1 1 g v ws) (hl : ws.length ≤ 1000000) (hl16 : l ≤ 100)
    (hK : ∀ (t' : Env) (b : Bool), t' 0 = v0 → t' 2 = v → t' 4 = v4 → t' 6 = .int .i64 (l : Nat) → t' 7 = .bool b → (b = true ↔ ∃ w ∈ ws, inL l w) → bellowsref24_Commit_j3 AC K I0 t' g n)
    (t0 : t 0 = v0) (t2 : t 2 = v) (t4 : t 4 = v4) (t6 : t 6 = .int .i64 (l : Nat)) (t7 : t 7 = .bool false) (t8 : t 8 = .int .i64 0) : lfp (bellowsref24_Commit_l2 AC K I0) t g n := by
  refine lfp_ind (m := ws.length) (Inv := fun mm t g5 n5 => g5 = g ∧ n5 = n ∧ ∃ (j : Nat) (b : Bool), mm + j = ws.length ∧ t 0 = v0 ∧ t 2 = v ∧ t 4 = v4 ∧ t 6 = .int .i64 (l : Nat) ∧ t 7 = .bool b ∧ (b = true ↔ ∃ w ∈ ws.take j, inL l w) ∧ t 8 = .int .i64 (j : Nat)) ?_ ⟨rfl, rfl, 0, false, by simp, t0, t2, t4, t6, t7, by simp, t8⟩
  rintro I mm t g5 n5 ih ⟨rfl, rfl, j, b, hm, t0, t2, t4, t6, t7, hb, t8⟩
  simp only [bellowsref24_Commit_l2, t2, t6, t7, t8]
  refine hv.len ?_
  rw [kBin_lss]
  refine kSplit_d (fun hj => ?_) (fun hj => ?_)
  · have hj : j < ws.length := by omega
    have hget := List.getElem?_eq_getElem hj
    generalize ws[j] = w at hget
    have hat := any_take (l := l) hget
    have go : ∀ (t' : Env) (b' : Bool), t' 0 = v0 → t' 2 = v → t' 4 = v4 → t' 6 = .int .i64 (l : Nat) → t' 7 = .bool b' → (b' = true ↔ ∃ w ∈ ws.take (j + 1), inL l w) → t' 8 = .int .i64 ((j + 1 : Nat) : Int) → I t' g5 n5 :=
      fun t' b' q1 q2 q3 q4 q5 q6 q7 => ih (mm - 1) _ _ _ (by omega) ⟨rfl, rfl, j + 1, b', by omega, q1, q2, q3, q4, q5, q6, q7⟩
    refine kSplit_c (fun hp => ?_) (fun hp => ?_)
    · rw [kBin_add, wrapNat (by omega)]
      exact go _ true t0 t2 t4 t6 rfl ⟨fun _ => hat.2 (.inl (hb.1 hp)), fun _ => rfl⟩ rfl
    · have hp' : ¬ ∃ w ∈ ws.take j, inL l w := fun hh => by rw [hb.2 hh] at hp; cases hp
      refine hv.idx enc1_len hget (fun l1 o1 ha => ?_)
      simp only [kPtr_p]
      refine ha.ld (i := 0) rfl ?_
      rw [kBin_mul, wrap64_of (by omega) (by omega), kBin_geq]
      refine kSplit_d (fun h1 => ?_) (fun h1 => ?_)
      · refine hv.idx enc1_len hget (fun l2 o2 ha2 => ?_)
        simp only [kPtr_p]
        refine ha2.ld (i := 0) rfl ?_
        rw [kBin_mul, wrap64_of (by omega) (by omega), kBin_add, wrap64_of (by omega) (by omega), kBin_lss, kBin_add, wrapNat (by omega)]
        refine go _ (decide (w < 8 * (l : Int) + 8)) t0 t2 t4 t6 rfl ?_ rfl
        rw [decide_eq_true_eq, hat]
        exact ⟨fun h2 => .inr ⟨h1, h2⟩, fun hh => hh.elim (fun hh => absurd hh hp') (·.2)⟩
      · rw [kBin_add, wrapNat (by omega)]
        exact go _ false t0 t2 t4 t6 rfl ⟨fun e => (by cases e), fun hh => ((hat.1 hh).elim hp' (fun hh => h1 hh.1)).elim⟩ rfl
  · have hje : ws.take j = ws := List.take_of_length_le (by omega)
    rw [hje] at hb
    exact hK _ _ t0 t2 t4 t6 t7 hb
theorem word8 (hG : GoodH h) {l : Nat} (hl : (l : Int) < h.hl) : wordH h (8 * (l : Int)) = 64 * (h.vol + 1 + h.log + (l : Int)) := by
  obtain ⟨⟨_, _, _, h4, h5, h6, _⟩, h7, h8, h9, h10, h11⟩ := id hG
  unfold wordH addrA
  rw [if_pos ⟨hG, by omega, by omega⟩, if_pos (by omega)]
  omega
theorem rCommit_spec {gI : G} {v : Value} {ws : List Int} {K : Cont} (hgI : Sub gI g) (hfr : ∀ l ∈ fp, gI l = none) (hv : Sl enc1 1 gI v ws) (hl : ws.length ≤ 1000000) (hB : RbH g fp lb B) (hk : Bk k m B) (hk2 : k + 38 ≤ 1000000)
    (hK : ∀ g' n' fp', RbH g' fp' lb (commitB h ws B) → Upd fp fp' g g' → K (.tuple #[]) g' n') : AC bellowsref24_Commit_id [ptr lb 0, .agg (encH h).toArray, v] g n K := by
  refine ACalls.fold X0_mono ?_
  rw [← bellowsref24_Commit_eq]
  simp only [bellowsref24_Commit, kAgg_a]
  intro hn
  have s := St.rinit (h := h) hB hn hk
  generalize upd g n (some (.cells (encH h) .exact)) = g1 at s
  refine ldH s.hb (rGoodH_spec fun g2 n2 hs => ?_)
  have s := s.rsub hs
  rw [kUn_not]
  by_cases hG : GoodH h
  · have e : commitB h ws B = _ := if_pos hG
    rw [e] at hK
    obtain ⟨⟨_, _, _, g4, g5, g6, _⟩, g7, g8, g9, g10, g11⟩ := id hG
    refine kSplit_f (by simp [hG]) ?_
    refine lfp_ind (m := h.hl.toNat) (Inv := fun mm t g5 n5 => ∃ (l : Nat) (fp5 : List Nat), mm + l = h.hl.toNat ∧ t 0 = ptr lb 0 ∧ t 2 = v ∧ t 4 = ptr n 0 ∧ t 6 = .int .i64 (l : Nat) ∧ St RbH g fp lb n h g5 fp5 (B.add (clL (lineN h ws l))) (k + 2 * l) m) ?_ ⟨0, fp, by simp, rfl, rfl, rfl, rfl, by simpa [lineN, clL, Bd.add_nil] using s⟩
    rintro I mm t g5 n5 ih ⟨l, fp5, hm, t0, t2, t4, t6, s⟩
    simp only [bellowsref24_Commit_l1, t4, t6, kPtr_p]
    have hvl : ∀ {g' : G} {fp' : List Nat} {B' : Bd} {k' : Nat}, St RbH g fp lb n h g' fp' B' k' m → Sl enc1 1 g' v ws := fun s => hv.mono (Upd.subOf hgI hfr s.u).1
    refine kLd_of s.hb rfl ?_
    rw [kBin_lss]
    refine kSplit_d (fun hj => ?_) (fun hj => ?_)
    · refine rC_l2 (l := l) (v0 := ptr lb 0) (v4 := ptr n 0) (hvl s) hl (by omega) (fun t' b t0 t2 t4 t6 t7 hb => ?_) t0 t2 t4 t6 rfl rfl
      simp only [bellowsref24_Commit_j3, t0, t4, t6, t7, kPtr_p]
      have hls := lineN_succ h ws l
      have next : ∀ (t' : Env) (g' : G) (n' : Nat) (fp' : List Nat), t' 0 = ptr lb 0 → t' 2 = v → t' 4 = ptr n 0 → t' 6 = .int .i64 (l : Nat) → St RbH g fp lb n h g' fp' (B.add (clL (lineN h ws (l + 1)))) (k + 2 * l + 2) m → bellowsref24_Commit_j4 AC K I t' g' n' := by
        intro t' g' n' fp' t0 t2 t4 t6 s
        simp only [bellowsref24_Commit_j4, t6]
        rw [kBin_add, wrapNat (by omega)]
        exact ih (mm - 1) _ _ _ (by omega) ⟨l + 1, fp', by omega, t0, t2, t4, rfl, s⟩
      refine kSplit_c (fun hp => ?_) (fun hp => ?_)
      · refine ldH s.hb ?_
        rw [kBin_mul, wrap64_of (by omega) (by omega)]
        refine rWord_spec fun _ _ hs => ?_
        have s := s.rsub hs
        refine qLi fun _ _ hs => ?_
        have s := s.rsub hs
        refine qMem fun _ _ hs => ?_
        have s := s.rsub hs
        refine qLit2 s (by simp [liI]) (by omega) fun _ _ _ _ _ fp9 s => ?_
        refine next _ _ _ fp9 t0 t2 t4 t6 ?_
        rw [hls, if_pos (hb.1 hp)]
        rw [word8 hG (by omega), Bd.add_add] at s
        simpa [clL] using s
      · refine next _ _ _ fp5 t0 t2 t4 t6 ?_
        rw [hls, if_neg (fun hh => by rw [hb.2 hh] at hp; cases hp), List.append_nil]
        exact ⟨s.b, s.u, s.hb, s.hn, s.bk.up (by omega) (Nat.le_refl _)⟩
    · have hle : l = h.hl.toNat := by omega
      subst hle
      rw [lineN_all] at s
      simp only [bellowsref24_Commit_j5]
      refine qOp fun _ _ hs => ?_
      have s := s.rsub hs
      show kFill _ _ fun c56 => kNew c56 .exact _ _ fun l56 g9 n56 => AC bellowsref21_Builder_Add_id [t 0, _] _ _ _
      rw [t0]
      refine qLit1 s (by simp) (by omega) fun _ _ _ _ _ _ s => ?_
      show kPtr (t 4) _
      rw [t4]
      simp only [kPtr_p]
      refine ldH s.hb ?_
      show AC bellowsref24_count_id [t 0, _, _, _] _ _ _
      rw [t0]
      refine rCountT_spec s.b s.bk (by omega) fun _ _ _ _ hb' u' => ?_
      rw [Bd.add_add] at hb'
      exact aRet_of (Sub.refl _) (hK _ _ _ hb' (s.u.trans u'))
  · have e : commitB h ws B = B := if_neg hG
    rw [e] at hK
    exact kSplit_t (by simp [hG]) (aRet_of (Sub.refl _) (hK _ _ _ s.b s.u))
end Go.Proofs.YtecojalpbppfeaaGreat.Gen

namespace Go.Proofs.YtecojalpbppfeaaGreat.Abs
open Go Go.RowKit
variable {g : G} {n : Nat}
section
variable {α : Type} {R : G → List Value → α → Prop} {z : Nat} {v : Value} {xs : List α}
theorem SlR.mono {g' : G} (hR : ∀ c x, R g c x → R g' c x) (h : SlR R z g v xs) (s : Sub g g') : SlR R z g' v xs := by
  obtain ⟨els, h1, h2, h3⟩ := h
  exact ⟨els, h1.mono s, h2, fun i c x hc hx => ⟨(h3 i c x hc hx).1, hR c x (h3 i c x hc hx).2⟩⟩
theorem SlR.len {K : Value → Prop} (h : SlR R z g v xs) (k : K (.int .i64 xs.length)) : kLen v K := by
  obtain ⟨els, h1, h2, h3⟩ := h
  exact h1.len k
theorem flatV_at {z : Nat} : ∀ (els : List (List Value)) (j : Nat) (c : List Value), (∀ c ∈ els, c.length = z) → els[j]? = some c → (els.flatten.drop (j * z)).take z = c
  | [], j, c, _, h => by simp at h
  | a :: r, 0, c, hz, h => by
    simp at h; subst h
    have := hz a (by simp)
    simp [List.take_append_of_le_length, this]
  | a :: r, j + 1, c, hz, h => by
    have ha := hz a (by simp)
    rw [List.flatten_cons, List.drop_append, List.drop_eq_nil_of_le (by rw [ha, Nat.add_mul]; omega), List.nil_append, ha, Nat.add_mul, Nat.one_mul, Nat.add_sub_cancel]
    exact flatV_at r j c (fun c hc => hz c (List.mem_cons_of_mem _ hc)) (by simpa using h)
theorem SlR.idx {j : Nat} {x : α} {kk : IntKind} {K : Value → Prop} (h : SlR R z g v xs) (hj : xs[j]? = some x) (k : ∀ l o c, At g l o c → c.length = z → R g c x → K (ptr l o)) : kIndexAddr v (.int kk j) z K := by
  obtain ⟨els, h1, h2, h3⟩ := h
  have hlt : j < xs.length := (List.getElem?_eq_some_iff.1 hj).1
  have hc : els[j]? = some (els[j]'(by omega)) := List.getElem?_eq_getElem (by omega)
  generalize els[j]'(by omega) = c at hc
  have hz : ∀ c ∈ els, c.length = z := fun c hc => by
    obtain ⟨i, hi, rfl⟩ := List.mem_iff_getElem.1 hc
    exact (h3 i _ _ (List.getElem?_eq_getElem hi) (List.getElem?_eq_getElem (by omega))).1
  obtain ⟨q1, q2⟩ := h3 j c x hc hj
  refine h1.idx (by omega) (by omega) (fun l o ha => k l o c ?_ q1 q2)
  rw [Int.toNat_natCast, flatV_at els j c hz hc] at ha
  exact ha
end
end Go.Proofs.YtecojalpbppfeaaGreat.Abs

namespace Go.Proofs.YtecojalpbppfeaaGreat.Gen
open Go Go.Proofs.YtecojalpbppfeaaGreat.Abs Go.RowKit
variable {g : G} {n : Nat}
/-! ## without a builder -/
theorem AddNil_spec {x : Value} {K : Cont} (hK : ∀ n', K (.tuple #[]) g n') : AC emit_Builder_Add_id [.pointer none, x] g n K := by
  refine ACalls.fold X0_mono ?_
  rw [← emit_Builder_Add_eq]
  simp only [emit_Builder_Add]
  have hb : ∀ J : Value → Prop, J (.bool false) → kBin .ptr .neq (.pointer none) (.pointer none) J := fun J h => h
  exact hb _ (kSplit_f rfl (aRet_of (Sub.refl _) (hK _)))
theorem BeginNil_spec {K : Cont} (hK : ∀ g' n', Sub g g' → K (.tuple #[]) g' n') : AC undo_Begin_id [.pointer none] g n K := by
  refine ACalls.fold X0_mono ?_
  rw [← undo_Begin_eq]
  simp only [undo_Begin]
  refine pLi fun g1 n1 h1 => litF1 _ fun hn => AddNil_spec fun n2 => aRet_of (Sub.refl _) (hK _ _ ?_)
  exact h1.trans ((Sub.refl g1).new hn _)
theorem NoteNil_spec {h : Hp} {w f : Value} {K : Cont} (hK : ∀ g' n', Sub g g' → K (.tuple #[]) g' n') : AC undo_Note_id [.pointer none, .agg (encH h).toArray, w, f] g n K := by
  refine ACalls.fold X0_mono ?_
  rw [← undo_Note_eq]
  simp only [undo_Note, kAgg_a, kBin_pnil_eql]
  intro hn
  exact kSplit_t rfl (aRet_of (Sub.refl _) (hK _ _ ((Sub.refl g).new hn _)))
theorem CommitNil_spec {h : Hp} {w : Value} {K : Cont} (hK : ∀ g' n', Sub g g' → K (.tuple #[]) g' n') : AC undo_Commit_id [.pointer none, .agg (encH h).toArray, w] g n K := by
  refine ACalls.fold X0_mono ?_
  rw [← undo_Commit_eq]
  simp only [undo_Commit, kAgg_a, kBin_pnil_eql]
  intro hn
  exact kSplit_t rfl (aRet_of (Sub.refl _) (hK _ _ ((Sub.refl g).new hn _)))
theorem BackNil_spec {h : Hp} {K : Cont} (hK : ∀ g' n', Sub g g' → K (.tuple #[]) g' n') : AC undo_Back_id [.pointer none, .agg (encH h).toArray] g n K := by
  refine ACalls.fold X0_mono ?_
  rw [← undo_Back_eq]
  simp only [undo_Back, kAgg_a, kBin_pnil_eql]
  intro hn
  exact kSplit_t rfl (aRet_of (Sub.refl _) (hK _ _ ((Sub.refl g).new hn _)))
/-! ## one that wakes -/
def plainH : Hp := ⟨2, 5, 1, 1, 2, 2, 2, 2, 1⟩
theorem Plain_spec {K : Cont} (hK : ∀ g' n', Sub g g' → K (.agg (encH plainH).toArray) g' n') : AC bellowslaw22_Plain_id [] g n K := by
  refine ACalls.fold X0_mono ?_
  rw [← bellowslaw22_Plain_eq]
  simp only [bellowslaw22_Plain, kAgg_a]
  intro hn
  have hu : Sub g (upd g n (some (.cells [.int .i64 0, .int .i64 0, .int .i64 0, .int .i64 0, .int .i64 0, .int .i64 0, .int .i64 0, .int .i64 0, .int .i64 0] .exact))) := (Sub.refl g).new hn _
  refine ⟨rfl, by simp, rfl, by simp, rfl, by simp, rfl, by simp, rfl, by simp, rfl, by simp, rfl, by simp, ?_⟩
  refine ⟨rfl, by simp, rfl, by simp [splice], rfl, by simp [splice], ?_⟩
  refine ⟨rfl, kStN_of (upd_same _ _ _) rfl (by simp [splice]) (by simp [splice, isCell]) ?_⟩
  refine ldH (x := plainH) (bk := .exact) ?_ (aRet_of (Sub.refl _) (hK _ _ (hu.upd_fresh _ hn)))
  exact upd_same _ _ _
theorem goodPlain : GoodH plainH := by decide
theorem note18 : (noteB plainH 3 0 B0.mark).items.length = 18 := by
  unfold noteB; rw [if_pos ⟨goodPlain, by decide, by decide⟩]; rfl
theorem wakes24_spec {K : Cont} (hK : ∀ g' n', Sub g g' → K (.bool true) g' n') : AC bellowslaw24_wakes_id [] g n K := by
  refine ACalls.fold X0_mono ?_
  rw [← bellowslaw24_wakes_eq]
  simp only [bellowslaw24_wakes, kFill_nil, kAgg_a]
  intro hn
  have i1 := bd_new hn
  have s1 := (Sub.refl g).new hn (some (.cells [(.slice none 0 0), (.slice none 0 0), (.slice none 0 0), (.bool false)] .exact))
  have f1 : ∀ l ∈ [n], g l = none := fun l hl => by rw [List.mem_singleton.1 hl]; exact hn
  generalize upd g n (some (.cells [(.slice none 0 0), (.slice none 0 0), (.slice none 0 0), (.bool false)] .exact)) = g1 at i1 s1
  refine Mark_spec i1 (by simp [B0]) fun g2 n2 fp2 hB2 u2 => Plain_spec fun g3 n3 s3 => ?_
  have hk : Bk 0 1 B0.mark := ⟨Bd.ok_mark B0_ok, by simp [B0, Bd.mark], by simp [B0, Bd.mark]⟩
  refine Note_spec (w := 3) (f := 0) (hB2.mono s3) hk (by omega) fun g4 n4 fp4 hB4 u4 _ => Plain_spec fun g5 n5 s5 => ?_
  refine Recover_spec fun v g6 n6 s6 ho _ => ?_
  rw [recD_snd _ goodPlain]
  refine kExt (vs := [v, .int .i64 0]) rfl (kExt (vs := [v, .int .i64 0]) rfl ?_)
  refine Len_spec (hB4.mono (s5.trans s6)) fun n7 => ?_
  rw [note18, kBin_eql]
  refine kSplit_t (by simp) ?_
  rw [kBin_eql]
  refine kSplit_t (by simp) (ho.sl.len ?_)
  have e22 : (recD plainH).1.length = 22 := by unfold recD; rw [if_pos goodPlain]; exact Bd.done_len goodPlain
  rw [e22, kBin_eql]
  have u := ((u2.trans (Upd.sub s3)).trans u4).trans (Upd.sub (s5.trans s6))
  exact aRet_of (Sub.refl _) (hK _ _ (Upd.subOf s1 f1 u).1)
/-! ## the steps -/
structure Stp where
  kind : Int
  w : Int
  full : Int
  words : List Int
def StepC (g : G) (c : List Value) (x : Stp) : Prop := ∃ v, c = [.int .i64 x.kind, .int .i64 x.w, .int .i64 x.full, v] ∧ Sl enc1 1 g v x.words ∧ isCell v = true
theorem StepC.mono {g' : G} {c : List Value} {x : Stp} (h : StepC g c x) (s : Sub g g') : StepC g' c x := by
  obtain ⟨v, e, h1, h2⟩ := h; exact ⟨v, e, h1.mono s, h2⟩
def Fair24 (l : List Stp) : Prop := (∀ x ∈ l, x.words.length ≤ 100) ∧ l.length ≤ 60
theorem fair24_spec {v : Value} {l : List Stp} (hv : SlR StepC 4 g v l) (hl : l.length < 4611686018427387904) {K : Cont} (hK : ∀ b n', (b = true → Fair24 l) → K (.bool b) g n') : AC bellowslaw24_fair_id [v] g n K := by
  refine ACalls.fold X0_mono ?_
  rw [← bellowslaw24_fair_eq]
  simp only [bellowslaw24_fair]
  refine lfp_ind (m := l.length) (Inv := fun mm t g2 n2 => g2 = g ∧ ∃ j : Nat, mm + j = l.length ∧ t 0 = v ∧ t 3 = .int .i64 (j : Nat) ∧ ∀ x ∈ l.take j, x.words.length ≤ 100) ?_ ⟨rfl, 0, by simp, rfl, rfl, by simp⟩
  rintro I mm t g2 n2 ih ⟨rfl, j, hm, t0, t3, hb⟩
  simp only [bellowslaw24_fair_l1, t0, t3]
  refine hv.len ?_
  rw [kBin_lss]
  refine kSplit_d (fun hj => ?_) (fun hj => ?_)
  · have hj : j < l.length := by omega
    have hget := List.getElem?_eq_getElem hj
    generalize l[j] = x at hget
    refine hv.idx hget (fun lx o c ha hc hx => ?_)
    obtain ⟨w, rfl, hw, _⟩ := hx
    simp only [kPtr_p]
    refine ha.ld (i := 3) rfl (hw.len ?_)
    rw [kBin_gtr]
    refine kSplit_d (fun h100 => aRet_of (Sub.refl _) (hK false _ fun e => by cases e)) (fun h100 => ?_)
    rw [kBin_add, wrapNat (by omega)]
    refine ih (mm - 1) _ _ _ (by omega) ⟨rfl, j + 1, by omega, t0, rfl, fun y hy => ?_⟩
    rw [List.take_add_one, hget] at hy
    rcases List.mem_append.1 hy with hy | hy
    · exact hb y hy
    · simp at hy; subst hy; omega
  · have hje : l.take j = l := List.take_of_length_le (by omega)
    rw [hje] at hb
    simp only [bellowslaw24_fair_j2]
    show kLen (t 0) _
    rw [t0]
    refine hv.len ?_
    rw [kBin_leq]
    exact aRet_of (Sub.refl _) (hK _ _ fun e => ⟨hb, by simp at e; omega⟩)
end Go.Proofs.YtecojalpbppfeaaGreat.Gen

namespace Go.Proofs.YtecojalpbppfeaaGreat.Gen
open Go Go.Proofs.YtecojalpbppfeaaGreat.Abs Go.RowKit
variable {g : G} {n : Nat}
/-- two builders side by side -/
structure Pm (g0 : G) (nb nq : Nat) (g : G) (f1 f2 : List Nat) (B1 B2 : Bd) : Prop where
  hs : Sub g0 g
  b : BdH g f1 nb B1
  q : RbH g f2 nq B2
  d : Dis f1 f2
  q1 : ∀ l ∈ f1, g0 l = none
  q2 : ∀ l ∈ f2, g0 l = none
variable {g0 : G} {nb nq : Nat} {f1 f2 f1' f2' : List Nat} {B1 B2 B1' B2' : Bd}
theorem Pm.sub {g' : G} (p : Pm g0 nb nq g f1 f2 B1 B2) (s : Sub g g') : Pm g0 nb nq g' f1 f2 B1 B2 := ⟨p.hs.trans s, p.b.mono s, p.q.mono s, p.d, p.q1, p.q2⟩
theorem Pm.left {g' : G} (p : Pm g0 nb nq g f1 f2 B1 B2) (h : BdH g' f1' nb B1') (u : Upd f1 f1' g g') : Pm g0 nb nq g' f1' f2 B1' B2 := by
  obtain ⟨s, q⟩ := Upd.subOf p.hs p.q1 u
  exact ⟨s, h, p.q.upd u p.d, p.d.upd u p.q.live, q, p.q2⟩
theorem Pm.right {g' : G} (p : Pm g0 nb nq g f1 f2 B1 B2) (h : RbH g' f2' nq B2') (u : Upd f2 f2' g g') : Pm g0 nb nq g' f1 f2' B1 B2' := by
  obtain ⟨s, q⟩ := Upd.subOf p.hs p.q2 u
  exact ⟨s, p.b.upd u p.d.symm, h, (p.d.symm.upd u p.b.live).symm, p.q1, q⟩
/-- a block that none of them has stays -/
theorem Pm.leftKeep {g' : G} (p : Pm g0 nb nq g f1 f2 B1 B2) (u : Upd f1 f1' g g') {l : Nat} {x : Blk} (hl : g l = some x) (h1 : l ∉ f1) : g' l = some x := u.1 _ _ hl h1
theorem copyS {c : List Value} {z : List Value} {K : G → Prop} (hn : g n = none) (hz : z.length = c.length) (hc : ∀ v ∈ c, isCell v = true) (k : Sub g (upd g n (some (.cells c .exact))) → upd g n (some (.cells c .exact)) n = some (.cells c .exact) → K (upd g n (some (.cells c .exact)))) :
    kStN (upd g n (some (.cells z .exact))) n 0 c K := by
  refine kStN_of (upd_same _ _ _) rfl (by omega) hc ?_
  have e : splice z 0 c = c := by unfold splice; simp [hz]
  rw [e]
  have e2 : upd (upd g n (some (.cells z .exact))) n (some (.cells c .exact)) = upd g n (some (.cells c .exact)) := by
    funext l; by_cases h : l = n
    · subst h; rw [upd_same, upd_same]
    · rw [upd_ne _ _ h, upd_ne _ _ h, upd_ne _ _ h]
  rw [e2]
  exact k ((Sub.refl g).new hn _) (upd_same _ _ _)
theorem cloneApp {v : Value} {xs : List Int} {K : Cont} {m : Nat} (hv : Sl enc1 1 g v xs) (hx : xs.length ≤ 100) (hl : g m = some (.cells (reps 0 [.int .i64 0]) .exact))
    (hK : ∀ v' g' n', OwnS enc1 1 none0 g' v' xs → (∀ l b, g l = some b → l ≠ m → g' l = some b) → K v' g' n') : kAppend (.slice (some ⟨m, 0, none⟩) 0 0) v 1 8 g n K := by
  refine OwnS.append (g0 := none0) (xs := ([] : List Int)) OwnS.empty (none0_sub g) hv enc1_cell (by decide) (by simp; omega) (by simp; omega) (fun v' g' n' _ h4 h5 _ => hK v' g' n' (by simpa using h4) fun l b hb hne => h5 l b hb (fun e => hne ?_))
  simp [blkOf] at e; exact e.symm
end Go.Proofs.YtecojalpbppfeaaGreat.Gen

namespace Go.Proofs.YtecojalpbppfeaaGreat.Gen
open Go Go.Proofs.YtecojalpbppfeaaGreat.Abs Go.RowKit
variable {g g0 : G} {n nb nq l5 : Nat} {f1 f2 : List Nat} {B : Bd} {h : Hp}
theorem recD_len (h : Hp) : (recD h).1.length < 1000000 := by
  unfold recD; split
  · rename_i hG; rw [Bd.done_len hG]; decide
  · simp
theorem UndoCode_j4 {t : Env} {K : Cont} {k m : Nat} (p : Pm g0 nb nq g f1 f2 B B) (hk : Bk k m B) (hk2 : k ≤ 100000) (hb0 : g0 l5 = some (.cells (encH h) .exact)) (hK : ∀ g' n', K (.bool true) g' n')
    (t2 : t 2 = ptr l5 0) (t5 : t 5 = ptr nb 0) (t6 : t 6 = ptr nq 0) : bellowslaw24_UndoCode_j4 AC K t g n := by
  simp only [bellowslaw24_UndoCode_j4, t2, t5, t6, kPtr_p]
  refine BeginNil_spec fun _ _ hs => ?_
  have p := p.sub hs
  refine ldH (p.hs.live hb0) (NoteNil_spec fun _ _ hs => ?_)
  have p := p.sub hs
  refine ldH (p.hs.live hb0) (CommitNil_spec fun _ _ hs => ?_)
  have p := p.sub hs
  refine ldH (p.hs.live hb0) (BackNil_spec fun _ _ hs => ?_)
  have p := p.sub hs
  have hdl := done_len B (by have := hk.2.1; omega)
  refine Done_spec p.b hk.1 fun v g3 n3 hs hv _ => ?_
  have p := p.sub hs
  refine kExt (vs := [v, .int .i64 B.done.2]) rfl (kExt (vs := [v, .int .i64 B.done.2]) rfl ?_)
  refine rDone_spec p.q hk.1 fun w g4 n4 hs2 hw _ => ?_
  have p := p.sub hs2
  refine kExt (vs := [w, .int .i64 B.done.2]) rfl (kExt (vs := [w, .int .i64 B.done.2]) rfl ?_)
  refine ldH (p.hs.live hb0) (Recover_spec fun v2 g5 n5 hs3 hv2 _ => ?_)
  have p := p.sub hs3
  refine kExt (vs := [v2, .int .i64 (recD h).2]) rfl (kExt (vs := [v2, .int .i64 (recD h).2]) rfl ?_)
  refine ldH (p.hs.live hb0) (rRecover_spec fun w2 g6 n6 hs4 hw2 _ => ?_)
  refine kExt (vs := [w2, .int .i64 (recD h).2]) rfl (kExt (vs := [w2, .int .i64 (recD h).2]) rfl ?_)
  refine Words_spec (((hv.sl.mono hs2).mono hs3).mono hs4) ((hw.sl.mono hs3).mono hs4) (by omega) (fun _ => kSplit_t (by simp) ?_)
  rw [kBin_eql]
  refine kSplit_t (by simp) (Words_spec (hv2.sl.mono hs4) hw2.sl (recD_len h) (fun _ => kSplit_t (by simp) ?_))
  rw [kBin_eql]
  exact kSplit_t (by simp) (wakes24_spec fun g' n' _ => aRet_of (Sub.refl _) (hK _ _))
set_option maxHeartbeats 2000000 in
theorem UndoCode_spec {v : Value} {l : List Stp} (hv : SlR StepC 4 g v l) (hl : l.length < 4611686018427387904) {K : Cont} (hK : ∀ g' n', K (.bool true) g' n') : AC bellowslaw24_UndoCode_id [.agg (encH h).toArray, v] g n K := by
  refine ACalls.fold X0_mono ?_
  rw [← bellowslaw24_UndoCode_eq]
  simp only [bellowslaw24_UndoCode, kAgg_a]
  intro hn
  have s1 := (Sub.refl g).new hn (some (.cells (encH h) .exact))
  have hb0 : upd g n (some (.cells (encH h) .exact)) n = some (.cells (encH h) .exact) := upd_same _ _ _
  generalize upd g n (some (.cells (encH h) .exact)) = g1 at s1 hb0
  have hv1 := hv.mono (fun c x hx => hx.mono s1) s1
  have hvc : SlR (fun _ => StepC g1) 4 g1 v l := hv1
  refine fair24_spec hv1 hl fun b n2 hb => ?_
  rw [kUn_not]
  cases b with
  | false => exact kSplit_t rfl (wakes24_spec fun g' n' _ => aRet_of (Sub.refl _) (hK _ _))
  | true =>
  obtain ⟨hF1, hF2⟩ := hb rfl
  simp only [kFill_nil, kAgg_a]
  refine kSplit_f rfl fun hn1 hn2 => ?_
  have i1 := bd_new hn1
  have s2 := (Sub.refl g1).new hn1 (some (.cells [(.slice none 0 0), (.slice none 0 0), (.slice none 0 0), (.bool false)] .exact))
  have s3 := s2.new hn2 (some (.cells [(.slice none 0 0), (.slice none 0 0), (.bool false)] .exact))
  have i1' := i1.mono ((Sub.refl _).new hn2 (some (.cells [(.slice none 0 0), (.slice none 0 0), (.bool false)] .exact)))
  have i2 := rb_new hn2
  have hn2' : g1 (n2 + 1) = none := s2.none hn2
  have p0 : Pm g1 n2 (n2 + 1) _ [n2] [n2 + 1] B0 B0 := ⟨s3, i1', i2, by intro l hl hm; simp at hl hm; omega, by intro l hl; rw [List.mem_singleton.1 hl]; exact hn1, by intro l hl; rw [List.mem_singleton.1 hl]; exact hn2'⟩
  refine lfp_ind (m := l.length) (Inv := fun mm t g' n' => ∃ (j : Nat) (f1 f2 : List Nat) (B : Bd), mm + j = l.length ∧ t 1 = v ∧ t 2 = ptr n 0 ∧ t 5 = ptr n2 0 ∧ t 6 = ptr (n2 + 1) 0 ∧ t 7 = .int .i64 (j : Nat) ∧ Pm g1 n2 (n2 + 1) g' f1 f2 B B ∧ Bk (38 * j) (2 * j) B) ?_ ⟨0, _, _, B0, by simp, rfl, rfl, rfl, rfl, rfl, p0, B0_ok, by simp [B0], by simp [B0]⟩
  rintro I mm t gC nC ih ⟨j, f1, f2, B, hm, t1, t2, t5, t6, t7, p, hk⟩
  simp only [bellowslaw24_UndoCode_l1, t1, t2, t5, t6, t7, kPtr_p]
  have hvC : SlR (fun _ => StepC g1) 4 gC v l := SlR.mono (R := fun _ => StepC g1) (fun _ _ hx => hx) hvc p.hs
  refine hvC.len ?_
  rw [kBin_lss]
  refine kSplit_d (fun hj => ?_) (fun hj => ?_)
  · have hj : j < l.length := by omega
    have hget := List.getElem?_eq_getElem hj
    have hx100 := hF1 _ (List.mem_of_getElem? hget)
    generalize l[j] = x at hget hx100
    refine hvC.idx hget (fun lx o c ha hc hx => ?_)
    obtain ⟨w, rfl, hw, hcell⟩ := hx
    simp only [kPtr_p]
    refine ha.ldN rfl (fun hn8 => ⟨rfl, copyS hn8 rfl (by
      intro u hu
      simp only [List.mem_cons, List.not_mem_nil, or_false] at hu
      rcases hu with rfl | rfl | rfl | rfl
      · rfl
      · rfl
      · rfl
      · exact hcell) fun s8 hb8 => ?_⟩)
    generalize upd gC nC (some (.cells [.int .i64 x.kind, .int .i64 x.w, .int .i64 x.full, w] .exact)) = g8 at s8 hb8
    have h8f : nC ∉ f1 := fun hm => by obtain ⟨b, hb⟩ := p.b.live _ hm; rw [hn8] at hb; cases hb
    have p := p.sub s8
    have next : ∀ (t' : Env) (g' : G) (n' : Nat) (f1' f2' : List Nat) (B' : Bd), t' 1 = v → t' 2 = ptr n 0 → t' 5 = ptr n2 0 → t' 6 = ptr (n2 + 1) 0 → t' 7 = .int .i64 (j : Nat) → Pm g1 n2 (n2 + 1) g' f1' f2' B' B' → Bk (38 * j + 38) (2 * j + 2) B' → bellowslaw24_UndoCode_j2 AC K I t' g' n' := by
      intro t' g' n' f1' f2' B' t1 t2 t5 t6 t7 p hk
      simp only [bellowslaw24_UndoCode_j2, t5, t6, kNil_p, kPtr_p]
      obtain ⟨sl, sm, hr, _⟩ := id p.q
      refine kLd_of hr.obj rfl (hr.hl.sl.len (Len_spec p.b fun n9 => ⟨rfl, ?_⟩))
      rw [kBin_neq]
      refine kSplit_f (by simp) ?_
      simp only [bellowslaw24_UndoCode_j3]
      show kBin .int .add (t' 7) _ _
      rw [t7, kBin_add, wrapNat (by omega)]
      refine ih (mm - 1) _ _ _ (by omega) ⟨j + 1, f1', f2', B', by omega, t1, t2, t5, t6, ?_, p, hk.up (by omega) (by omega)⟩
      rfl
    refine kLd_of hb8 rfl ?_
    rw [kBin_eql]
    refine kSplit_d (fun _ => ?_) (fun _ => ?_)
    · refine Begin_spec p.b hk (by omega) fun g9 n9 f9 h9 u9 hk9 => ?_
      have p9 := p.left h9 u9
      refine rBegin_spec p9.q hk (by omega) fun g10 n10 f10 h10 u10 => ?_
      exact next _ _ _ _ _ _ t1 t2 t5 t6 t7 (p9.right h10 u10) (hk9.up (by omega) (by omega))
    rw [kBin_eql]
    refine kSplit_d (fun _ => ?_) (fun _ => ?_)
    · refine ldH (p.hs.live hb0) (kLd_of hb8 rfl (kLd_of hb8 rfl (Note_spec p.b hk (by omega) fun g9 n9 f9 h9 u9 hk9 => ?_)))
      have hb9 := p.leftKeep u9 hb8 h8f
      have p9 := p.left h9 u9
      refine ldH (p9.hs.live hb0) (kLd_of hb9 rfl (kLd_of hb9 rfl (rNote_spec p9.q hk (by omega) fun g10 n10 f10 h10 u10 => ?_)))
      exact next _ _ _ _ _ _ t1 t2 t5 t6 t7 (p9.right h10 u10) (hk9.up (by omega) (by omega))
    rw [kBin_eql]
    refine kSplit_d (fun _ => ?_) (fun _ => ?_)
    · refine ldH (p.hs.live hb0) (kLd_of hb8 rfl fun hnA => ?_)
      have sA := (Sub.refl g8).new hnA (some (.cells (reps 0 [.int .i64 0]) .exact))
      have hbA : upd g8 (nC + 1) (some (.cells (reps 0 [.int .i64 0]) .exact)) (nC + 1) = some (.cells (reps 0 [.int .i64 0]) .exact) := upd_same _ _ _
      have hb0A := sA.live (p.hs.live hb0)
      have hb8A := sA.live hb8
      refine ⟨hb0A.trans (p.hs.live hb0).symm, hb8A.trans hb8.symm, ?_⟩
      refine cloneApp ((hw.mono p.hs).mono sA) hx100 hbA fun vw gD nD ho hkp => ?_
      have neA : ∀ {q : Nat} {bb : Blk}, g8 q = some bb → q ≠ nC + 1 := fun hq e => by rw [e, hnA] at hq; cases hq
      have hb0D := hkp _ _ hb0A (neA (p.hs.live hb0))
      have hb8D := hkp _ _ hb8A (neA hb8)
      have sD : Sub g8 gD := fun q => by
        cases hq : g8 q with
        | none => exact .inl rfl
        | some bb => exact .inr (hkp q bb (sA.live hq) (neA hq)).symm
      have p := p.sub sD
      refine ⟨hb0D.trans hb0A.symm, Commit_spec p.b hk (by omega) ho.sl (by omega) fun g9 n9 f9 h9 u9 hk9 => ?_⟩
      have hb9 := p.leftKeep u9 hb8D h8f
      have p9 := p.left h9 u9
      refine ldH (p9.hs.live hb0) (kLd_of hb9 rfl (rCommit_spec p9.hs p9.q2 hw (by omega) p9.q hk (by omega) fun g10 n10 f10 h10 u10 => ?_))
      exact next _ _ _ _ _ _ t1 t2 t5 t6 t7 (p9.right h10 u10) (hk9.up (by omega) (by omega))
    rw [kBin_eql]
    refine kSplit_d (fun _ => ?_) (fun _ => ?_)
    · refine ldH (p.hs.live hb0) (Back_spec p.b hk (by omega) (by omega) fun g9 n9 f9 h9 u9 hk9 => ?_)
      have p9 := p.left h9 u9
      refine ldH (p9.hs.live hb0) (rBack_spec p9.q hk (by omega) (by omega) fun g10 n10 f10 h10 u10 => ?_)
      exact next _ _ _ _ _ _ t1 t2 t5 t6 t7 (p9.right h10 u10) (hk9.up (by omega) (by omega))
    rw [kBin_eql]
    refine kSplit_d (fun _ => ?_) (fun _ => ?_)
    · have hm2 := hk.2.2
      refine Mark_spec p.b (by omega) fun g9 n9 f9 h9 u9 => ?_
      have p9 := p.left h9 u9
      refine rMark_spec p9.q (by omega) fun g10 n10 f10 h10 u10 => ?_
      rw [kBin_neq]
      refine kSplit_f (by simp) ?_
      exact next _ _ _ _ _ _ t1 t2 t5 t6 t7 (p9.right h10 u10) (hk.mark.up (by omega) (by omega))
    rw [kBin_eql]
    refine kSplit_d (fun _ => ?_) (fun _ => ?_)
    · refine kLd_of hb8 rfl (Here_spec p.b fun g9 n9 f9 h9 u9 => ?_)
      have hb9 := p.leftKeep u9 hb8 h8f
      have p9 := p.left h9 u9
      refine kLd_of hb9 rfl (rHere_spec p9.q fun g10 n10 f10 h10 u10 => ?_)
      exact next _ _ _ _ _ _ t1 t2 t5 t6 t7 (p9.right h10 u10) ((hk.here _).up (by omega) (by omega))
    · exact next _ _ _ _ _ _ t1 t2 t5 t6 t7 p (hk.up (by omega) (by omega))
  · refine UndoCode_j4 p hk (by omega) hb0 hK ?_ ?_ ?_
    · exact t2
    · exact t5
    · exact t6
end Go.Proofs.YtecojalpbppfeaaGreat.Gen

namespace Go.Proofs.YtecojalpbppfeaaGreat.Gen
open Go Go.Proofs.YtecojalpbppfeaaGreat.Abs Go.RowKit
variable {g : G} {n : Nat}
theorem dec1 (c : List Value) (h : RepL g [.i .i64] c) : ∃ x, c = enc1 x := by
  obtain ⟨a1, r1, e1, _, h⟩ := rep_i h
  have e := rep_nil h
  subst e e1
  exact ⟨a1, rfl⟩
theorem decStp (c : List Value) (h : RepL g [.i .i64, .i .i64, .i .i64, .s [.i .i64]] c) : ∃ x, StepC g c x := by
  obtain ⟨a1, r1, e1, _, h⟩ := rep_i h
  obtain ⟨a2, r2, e2, _, h⟩ := rep_i h
  obtain ⟨a3, r3, e3, _, h⟩ := rep_i h
  obtain ⟨v, r, e4, h1, h⟩ := rep_s h
  have e := rep_nil h
  subst e e4 e3 e2 e1
  obtain ⟨xs, h2, _⟩ := rep_sl dec1 h1
  refine ⟨⟨a1, a2, a3, xs⟩, v, rfl, h2, ?_⟩
  obtain ⟨a, c, rfl, _⟩ := id h2
  rfl
theorem slR_bound {α : Type} {R : G → List Value → α → Prop} {z : Nat} {v : Value} {xs : List α} (h : SlR R z g v xs) (hc : ∀ a m c, v = .slice a m c → c < LC ∧ m ≤ c) : xs.length < 4611686018427387904 := by
  obtain ⟨els, ⟨a, c, e, _⟩, _⟩ := h
  obtain ⟨h1, h2⟩ := hc _ _ _ e
  unfold LC at h1; omega
theorem UndoCode_row {args : List Value} (hr : RepAs g [(true, [.i .i64, .i .i64, .i .i64, .i .i64, .i .i64, .i .i64, .i .i64, .i .i64, .i .i64]), (false, [.s [.i .i64, .i .i64, .i .i64, .s [.i .i64]]])] args) {K : Cont} (hK : ∀ g' n', K (.bool true) g' n') : AC 3 args g n K := by
  cases hr with
  | cons h1 hr =>
    cases hr with
    | cons h2 hr =>
      cases hr
      obtain ⟨cs, e, h1⟩ := h1
      obtain ⟨a1, r1, e1, _, h⟩ := rep_i h1
      obtain ⟨a2, r2, e2, _, h⟩ := rep_i h
      obtain ⟨a3, r3, e3, _, h⟩ := rep_i h
      obtain ⟨a4, r4, e4, _, h⟩ := rep_i h
      obtain ⟨a5, r5, e5, _, h⟩ := rep_i h
      obtain ⟨a6, r6, e6, _, h⟩ := rep_i h
      obtain ⟨a7, r7, e7, _, h⟩ := rep_i h
      obtain ⟨a8, r8, e8, _, h⟩ := rep_i h
      obtain ⟨a9, r9, e9, _, h⟩ := rep_i h
      have e0 := rep_nil h
      subst e0 e9 e8 e7 e6 e5 e4 e3 e2 e1
      subst e
      obtain ⟨v, r, e, h2, hn⟩ := rep_s h2
      cases e
      obtain ⟨xs, h2, hc⟩ := rep_slR (R := StepC) decStp h2
      exact UndoCode_spec (h := ⟨a1, a2, a3, a4, a5, a6, a7, a8, a9⟩) h2 (slR_bound h2 hc) hK
end Go.Proofs.YtecojalpbppfeaaGreat.Gen
