import Derived.Test.YtecojalpbppfeaaGreatSpecClientCodeA
/- What the functions come to. -/
set_option linter.all false
set_option linter.deprecated false
namespace Go.Proofs.YtecojalpbppfeaaGreat.Gen
open Go Go.Proofs.YtecojalpbppfeaaGreat.Abs Go.RowKit
variable {g : G} {n : Nat}
/-! ## addresses -/
def addrA (a b : Int) : Int := if 0 ≤ a ∧ a ≤ 63 ∧ 0 ≤ b ∧ b ≤ 7 then 64 * a + 8 * b else 0
def countH (h : Hp) : Int := if GoodH h then addrA h.vol 0 else 0
def entryH (h : Hp) : Int := if GoodH h then addrA (h.vol + 1) 0 else 0
def wordH (h : Hp) (w : Int) : Int := if GoodH h ∧ 0 ≤ w ∧ w < 8 * h.hl then addrA (h.vol + 1 + h.log + w / 8) (w % 8) else 0
theorem wU {x : Int} (h0 : 0 ≤ x) (h1 : x < 1000000) : IntKind.u64.wrap x = x := by
  show x % ((2 ^ 64 : Nat) : Int) = x
  exact Int.emod_eq_of_lt h0 (by omega)
theorem wis_spec {x : Int} {K : Cont} (hK : ∀ n', K (.bool (decide (0 ≤ x ∧ x ≤ 7))) g n') : AC word_is_id [.int .i64 x] g n K := by
  refine ACalls.fold X0_mono ?_
  rw [← word_is_eq]
  simp only [word_is]
  repeat' first
    | (refine kSplit_d (fun _ => ?_) (fun _ => ?_))
    | (refine aRet_of (Sub.refl _) (leafB hK ?_))
    | (simp only [kBin_geq, kBin_leq, kBin_lss, kBin_gtr, kBin_eql, kBin_neq])
  all_goals (rw [Bool.eq_iff_iff]; simp only [decide_eq_true_eq, Bool.false_eq_true, false_iff, true_iff]; omega)
theorem Addr_spec {a b : Int} {K : Cont} (hK : ∀ n', K (.int .u64 (addrA a b)) g n') : AC word_Addr_id [.int .i64 a, .int .i64 b] g n K := by
  refine ACalls.fold X0_mono ?_
  rw [← word_Addr_eq]
  simp only [word_Addr]
  have no : ¬ (0 ≤ a ∧ a ≤ 63 ∧ 0 ≤ b ∧ b ≤ 7) → ∀ n', aRet K (.int .u64 0) g n' := fun h n' => aRet_of (Sub.refl _) (by have := hK n'; unfold addrA at this; rw [if_neg h] at this; exact this)
  rw [kBin_lss]
  refine kSplit_d (fun h => no (by omega) _) (fun h1 => ?_)
  rw [kBin_geq]
  refine kSplit_d (fun h => no (by omega) _) (fun h2 => ?_)
  refine wis_spec fun n' => ?_
  rw [kUn_not]
  by_cases hb : 0 ≤ b ∧ b ≤ 7
  · refine kSplit_f (by simp [hb]) ?_
    rw [kConv_i, wU (by omega) (by omega), kBin_mul, wU (by omega) (by omega), kConv_i, wU (by omega) (by omega), kBin_mul, wU (by omega) (by omega), kBin_add, wU (by omega) (by omega)]
    have := hK n'
    unfold addrA at this; rw [if_pos (by omega), Int.mul_comm, Int.mul_comm 8] at this
    exact aRet_of (Sub.refl _) this
  · exact kSplit_t (by simp; omega) (no (by omega) _)
theorem rAddr_spec {a b : Int} {K : Cont} (hK : ∀ n', K (.int .u64 (addrA a b)) g n') : AC bellowsref01_Addr_id [.int .i64 a, .int .i64 b] g n K := by
  refine ACalls.fold X0_mono ?_
  rw [← bellowsref01_Addr_eq]
  simp only [bellowsref01_Addr]
  have no : ¬ (0 ≤ a ∧ a ≤ 63 ∧ 0 ≤ b ∧ b ≤ 7) → ∀ n', aRet K (.int .u64 0) g n' := fun h n' => aRet_of (Sub.refl _) (by have := hK n'; unfold addrA at this; rw [if_neg h] at this; exact this)
  rw [kBin_lss]
  refine kSplit_d (fun h => no (by omega) _) (fun h1 => ?_)
  rw [kBin_gtr]
  refine kSplit_d (fun h => no (by omega) _) (fun h2 => ?_)
  rw [kBin_lss]
  refine kSplit_d (fun h => no (by omega) _) (fun h3 => ?_)
  rw [kBin_gtr]
  refine kSplit_d (fun h => no (by omega) _) (fun h4 => ?_)
  rw [kBin_mul, wrap64_of (by omega) (by omega), kBin_mul, wrap64_of (by omega) (by omega), kBin_add, wrap64_of (by omega) (by omega), kConv_i, wU (by omega) (by omega)]
  have := hK n
  unfold addrA at this; rw [if_pos (by omega)] at this
  exact aRet_of (Sub.refl _) this
theorem Count_spec {h : Hp} {K : Cont} (hK : ∀ g' n', Sub g g' → K (.int .u64 (countH h)) g' n') : AC layout_Count_id [.agg (encH h).toArray] g n K := by
  refine ACalls.fold X0_mono ?_
  rw [← layout_Count_eq]
  simp only [layout_Count, kAgg_a]
  intro hn
  have h1s := (Sub.refl g).new hn (some (.cells (encH h) .exact))
  refine ldH (upd_same _ _ _) (of_spec fun lp g2 n2 hs hp => ?_)
  simp only [kNil_p, kPtr_p]
  refine kLd_of hp rfl ?_
  rw [kUn_not]
  have ss := h1s.trans hs
  have hK2 := hK g2
  by_cases hG : GoodH h
  · refine kSplit_f (by simp [hG]) (kLd_of hp rfl ?_)
    obtain ⟨⟨_, _, _, h4, h5, h6, _⟩, _⟩ := id hG
    rw [wrap64_of (by omega) (by omega), kBin_sub, wrap64_of (by omega) (by omega)]
    refine Addr_spec fun n' => aRet_of (Sub.refl _) ?_
    have := hK2 n' ss
    unfold countH at this; rw [if_pos hG] at this
    rw [show h.vol + 1 - 1 = h.vol by omega]; exact this
  · refine kSplit_t (by simp [hG]) (aRet_of (Sub.refl _) ?_)
    have := hK2 n2 ss
    unfold countH at this; rw [if_neg hG] at this; exact this
theorem rCount_spec {h : Hp} {K : Cont} (hK : ∀ g' n', Sub g g' → K (.int .u64 (countH h)) g' n') : AC bellowsref22_Count_id [.agg (encH h).toArray] g n K := by
  refine ACalls.fold X0_mono ?_
  rw [← bellowsref22_Count_eq]
  simp only [bellowsref22_Count, kAgg_a]
  intro hn
  have h1s := (Sub.refl g).new hn (some (.cells (encH h) .exact))
  have hb1 : upd g n (some (.cells (encH h) .exact)) n = some (.cells (encH h) .exact) := upd_same _ _ _
  generalize upd g n (some (.cells (encH h) .exact)) = g1 at h1s hb1
  refine ldH hb1 (rGoodH_spec fun g2 n2 hs => ?_)
  rw [kUn_not]
  have ss := h1s.trans hs
  by_cases hG : GoodH h
  · refine kSplit_f (by simp [hG]) (kLd_of (hs.live hb1) rfl (rAddr_spec fun n' => aRet_of (Sub.refl _) ?_))
    have := hK g2 n' ss
    unfold countH at this; rw [if_pos hG] at this; exact this
  · refine kSplit_t (by simp [hG]) (aRet_of (Sub.refl _) ?_)
    have := hK g2 n2 ss
    unfold countH at this; rw [if_neg hG] at this; exact this
theorem Entry_spec {h : Hp} {K : Cont} (hK : ∀ g' n', Sub g g' → K (.int .u64 (entryH h)) g' n') : AC layout_Entry_id [.agg (encH h).toArray, .int .i64 0] g n K := by
  refine ACalls.fold X0_mono ?_
  rw [← layout_Entry_eq]
  simp only [layout_Entry, kAgg_a]
  intro hn
  have h1s := (Sub.refl g).new hn (some (.cells (encH h) .exact))
  refine ldH (upd_same _ _ _) (of_spec fun lp g2 n2 hs hp => ?_)
  simp only [kNil_p, kPtr_p]
  refine kLd_of hp rfl ?_
  rw [kUn_not]
  have ss := h1s.trans hs
  have hK2 := hK g2
  by_cases hG : GoodH h
  · refine kSplit_f (by simp [hG]) ?_
    obtain ⟨⟨_, _, _, h4, h5, h6, _⟩, h7, h8, _⟩ := id hG
    rw [kBin_lss]
    refine kSplit_f (by simp) (kLd_of hp rfl ?_)
    rw [wrap64_of (by omega) (by omega), kBin_geq]
    refine kSplit_f (by simp; omega) (kLd_of hp rfl ?_)
    rw [wrap64_of (by omega) (by omega), kBin_quo]
    refine ⟨by decide, ?_⟩
    rw [show IntKind.i64.wrap ((0 : Int).tdiv 4) = 0 from rfl, kBin_add, wrap64_of (by omega) (by omega), kBin_rem]
    refine ⟨by decide, ?_⟩
    rw [show (0 : Int).tmod 4 = 0 from rfl, kBin_mul, show IntKind.i64.wrap ((0 : Int) * 2) = 0 from rfl]
    refine Addr_spec fun n' => aRet_of (Sub.refl _) ?_
    have := hK2 n' ss
    unfold entryH at this; rw [if_pos hG] at this
    rw [Int.add_zero]; exact this
  · refine kSplit_t (by simp [hG]) (aRet_of (Sub.refl _) ?_)
    have := hK2 n2 ss
    unfold entryH at this; rw [if_neg hG] at this; exact this
theorem rEntry_spec {h : Hp} {K : Cont} (hK : ∀ g' n', Sub g g' → K (.int .u64 (entryH h)) g' n') : AC bellowsref22_Entry_id [.agg (encH h).toArray, .int .i64 0] g n K := by
  refine ACalls.fold X0_mono ?_
  rw [← bellowsref22_Entry_eq]
  simp only [bellowsref22_Entry, kAgg_a]
  intro hn
  have h1s := (Sub.refl g).new hn (some (.cells (encH h) .exact))
  have hb1 : upd g n (some (.cells (encH h) .exact)) n = some (.cells (encH h) .exact) := upd_same _ _ _
  generalize upd g n (some (.cells (encH h) .exact)) = g1 at h1s hb1
  rw [kBin_lss]
  refine kSplit_f (by simp) (ldH hb1 (rRoom_spec fun g2 n2 hs => ?_))
  have ss := h1s.trans hs
  rw [kBin_geq]
  by_cases hG : GoodH h
  · obtain ⟨⟨_, _, _, h4, h5, h6, _⟩, h7, h8, _⟩ := id hG
    refine kSplit_f (by unfold roomH; rw [if_pos hG]; simp; omega) (kLd_of (hs.live hb1) rfl ?_)
    rw [kBin_add, wrap64_of (by omega) (by omega), kBin_quo]
    refine ⟨by decide, ?_⟩
    rw [show IntKind.i64.wrap ((0 : Int).tdiv 4) = 0 from rfl, kBin_add, wrap64_of (by omega) (by omega), kBin_rem]
    refine ⟨by decide, ?_⟩
    rw [show (0 : Int).tmod 4 = 0 from rfl, kBin_mul, show IntKind.i64.wrap (2 * (0 : Int)) = 0 from rfl]
    refine rAddr_spec fun n' => aRet_of (Sub.refl _) ?_
    have := hK g2 n' ss
    unfold entryH at this; rw [if_pos hG] at this
    rw [Int.add_zero]; exact this
  · refine kSplit_t (by unfold roomH; rw [if_neg hG]; simp) (aRet_of (Sub.refl _) ?_)
    have := hK g2 n2 ss
    unfold entryH at this; rw [if_neg hG] at this; exact this
theorem div8 {w : Int} (h0 : 0 ≤ w) (h1 : w < 1000000) : IntKind.i64.wrap (w.tdiv 8) = w / 8 ∧ w.tmod 8 = w % 8 := by
  rw [Int.tdiv_eq_ediv_of_nonneg h0, Int.tmod_eq_emod_of_nonneg h0]
  exact ⟨wrap64_of (by omega) (by omega), rfl⟩
theorem Word_spec {h : Hp} {w : Int} {K : Cont} (hK : ∀ g' n', Sub g g' → K (.int .u64 (wordH h w)) g' n') : AC layout_Word_id [.agg (encH h).toArray, .int .i64 w] g n K := by
  refine ACalls.fold X0_mono ?_
  rw [← layout_Word_eq]
  simp only [layout_Word, kAgg_a]
  intro hn
  have h1s := (Sub.refl g).new hn (some (.cells (encH h) .exact))
  refine ldH (upd_same _ _ _) (of_spec fun lp g2 n2 hs hp => ?_)
  simp only [kNil_p, kPtr_p]
  refine kLd_of hp rfl ?_
  rw [kUn_not]
  have ss := h1s.trans hs
  have no : ¬ (GoodH h ∧ 0 ≤ w ∧ w < 8 * h.hl) → ∀ n', aRet K (.int .u64 0) g2 n' := fun hh n' => aRet_of (Sub.refl _) (by have := hK g2 n' ss; unfold wordH at this; rw [if_neg hh] at this; exact this)
  by_cases hG : GoodH h
  · refine kSplit_f (by simp [hG]) ?_
    obtain ⟨⟨_, _, _, h4, h5, h6, _⟩, h7, h8, h9, h10, h11⟩ := id hG
    rw [kBin_lss]
    refine kSplit_d (fun hh => no (by omega) _) (fun h0 => kLd_of hp rfl ?_)
    rw [kBin_mul, wrap64_of (by omega) (by omega), kBin_geq]
    refine kSplit_d (fun hh => no (by omega) _) (fun h1 => kLd_of hp rfl ?_)
    obtain ⟨e1, e2⟩ := div8 (w := w) (by omega) (by omega)
    rw [@wrap64_of (h.vol + 1) (by omega) (by omega), @wrap64_of (h.vol + 1 + h.log) (by omega) (by omega), kBin_quo]
    refine ⟨by decide, ?_⟩
    rw [e1, kBin_add, wrap64_of (by omega) (by omega), kBin_rem]
    refine ⟨by decide, ?_⟩
    rw [e2]
    refine Addr_spec fun n' => aRet_of (Sub.refl _) ?_
    have := hK g2 n' ss
    unfold wordH at this; rw [if_pos ⟨hG, by omega, by omega⟩] at this
    exact this
  · exact kSplit_t (by simp [hG]) (no (fun hh => hG hh.1) _)
theorem rFirst_spec {h : Hp} (hG : GoodH h) {K : Cont} (hK : ∀ g' n', Sub g g' → K (.int .i64 (h.vol + 1 + h.log)) g' n') : AC bellowsref22_First_id [.agg (encH h).toArray] g n K := by
  refine ACalls.fold X0_mono ?_
  rw [← bellowsref22_First_eq]
  simp only [bellowsref22_First, kAgg_a]
  intro hn
  have h1s := (Sub.refl g).new hn (some (.cells (encH h) .exact))
  obtain ⟨⟨_, _, _, h4, h5, h6, _⟩, h7, h8, h9, h10, h11⟩ := id hG
  refine kLd_of (upd_same _ _ _) rfl ?_
  rw [kBin_add, wrap64_of (by omega) (by omega)]
  refine kLd_of (upd_same _ _ _) rfl ?_
  rw [kBin_add, wrap64_of (by omega) (by omega)]
  exact aRet_of (Sub.refl _) (hK _ _ h1s)
theorem rWord_spec {h : Hp} {w : Int} {K : Cont} (hK : ∀ g' n', Sub g g' → K (.int .u64 (wordH h w)) g' n') : AC bellowsref22_Word_id [.agg (encH h).toArray, .int .i64 w] g n K := by
  refine ACalls.fold X0_mono ?_
  rw [← bellowsref22_Word_eq]
  simp only [bellowsref22_Word, kAgg_a]
  intro hn
  have h1s := (Sub.refl g).new hn (some (.cells (encH h) .exact))
  have hb1 : upd g n (some (.cells (encH h) .exact)) n = some (.cells (encH h) .exact) := upd_same _ _ _
  generalize upd g n (some (.cells (encH h) .exact)) = g1 at h1s hb1
  rw [kBin_lss]
  have no : ¬ (GoodH h ∧ 0 ≤ w ∧ w < 8 * h.hl) → ∀ g2 n', Sub g g2 → aRet K (.int .u64 0) g2 n' := fun hh g2 n' ss => aRet_of (Sub.refl _) (by have := hK g2 n' ss; unfold wordH at this; rw [if_neg hh] at this; exact this)
  refine kSplit_d (fun hh => no (by omega) _ _ h1s) (fun h0 => ldH hb1 (rWds_spec fun g2 n2 hs => ?_))
  have ss := h1s.trans hs
  rw [kBin_geq]
  by_cases hG : GoodH h
  · obtain ⟨⟨_, _, _, h4, h5, h6, _⟩, h7, h8, h9, h10, h11⟩ := id hG
    have ew : wordsH h = 8 * h.hl := by unfold wordsH; rw [if_pos hG]
    rw [ew]
    refine kSplit_d (fun hh => no (by omega) _ _ ss) (fun h1 => ldH (hs.live hb1) (rFirst_spec hG fun g3 n3 s3 => ?_))
    obtain ⟨e1, e2⟩ := div8 (w := w) (by omega) (by omega)
    rw [kBin_quo]
    refine ⟨by decide, ?_⟩
    rw [e1, kBin_add, wrap64_of (by omega) (by omega), kBin_rem]
    refine ⟨by decide, ?_⟩
    rw [e2]
    refine rAddr_spec fun n' => aRet_of (Sub.refl _) ?_
    have := hK g3 n' (ss.trans s3)
    unfold wordH at this; rw [if_pos ⟨hG, by omega, by omega⟩] at this
    exact this
  · refine kSplit_t (by unfold wordsH; rw [if_neg hG]; simp; omega) (no (fun hh => hG hh.1) _ _ ss)
end Go.Proofs.YtecojalpbppfeaaGreat.Gen

namespace Go.Proofs.YtecojalpbppfeaaGreat.Gen
open Go Go.Proofs.YtecojalpbppfeaaGreat.Abs Go.RowKit
variable {g : G} {n : Nat}
/-! ## a builder that grows, beside a heap in a block -/
def Bk (k m : Nat) (B : Bd) : Prop := B.ok ∧ B.items.length ≤ k ∧ B.marks.length ≤ m
structure St (H : G → List Nat → Nat → Bd → Prop) (g0 : G) (fp0 : List Nat) (lb l5 : Nat) (h : Hp) (g : G) (fp : List Nat) (B : Bd) (k m : Nat) : Prop where
  b : H g fp lb B
  u : Upd fp0 fp g0 g
  hb : g l5 = some (.cells (encH h) .exact)
  hn : l5 ∉ fp
  bk : Bk k m B
variable {g0 : G} {fp0 fp fp' : List Nat} {lb l5 k m : Nat} {h : Hp} {B B' : Bd}
theorem St.sub {g' : G} (s : St BdH g0 fp0 lb l5 h g fp B k m) (hs : Sub g g') : St BdH g0 fp0 lb l5 h g' fp B k m :=
  ⟨s.b.mono hs, s.u.trans (Upd.sub hs), hs.live s.hb, s.hn, s.bk⟩
theorem St.rsub {g' : G} (s : St RbH g0 fp0 lb l5 h g fp B k m) (hs : Sub g g') : St RbH g0 fp0 lb l5 h g' fp B k m :=
  ⟨s.b.mono hs, s.u.trans (Upd.sub hs), hs.live s.hb, s.hn, s.bk⟩
theorem St.move {H : G → List Nat → Nat → Bd → Prop} {g' : G} {k' m' : Nat} (s : St H g0 fp0 lb l5 h g fp B k m) (h' : H g' fp' lb B') (u : Upd fp fp' g g') (hk : Bk k' m' B') : St H g0 fp0 lb l5 h g' fp' B' k' m' := by
  refine ⟨h', s.u.trans u, u.1 _ _ s.hb s.hn, fun hm => ?_, hk⟩
  rcases u.2 _ hm with h1 | h1
  · exact s.hn h1
  · rw [s.hb] at h1; cases h1
theorem Bk.add {ys : List Ins} (hb : Bk k m B) (hl : ∀ i ∈ ys, 0 ≤ i.op ∧ i.op ≤ 22) (hk : k + ys.length ≤ 1000000) : Bk (k + ys.length) m (B.add ys) :=
  ⟨Bd.ok_add hb.1 hl (by have := hb.2.1; omega), by rw [(Bd.add_n _ _).1]; have := hb.2.1; omega, by rw [(Bd.add_n _ _).2]; exact hb.2.2⟩
theorem Bk.mark (hb : Bk k m B) : Bk k (m + 1) B.mark := ⟨Bd.ok_mark hb.1, hb.2.1, by simp [Bd.mark]; exact hb.2.2⟩
theorem Bk.here (hb : Bk k m B) (x : Int) : Bk k m (B.here x) := ⟨Bd.ok_here hb.1 x, by rw [(Bd.here_n _ _).1]; exact hb.2.1, by rw [(Bd.here_n _ _).2]; exact hb.2.2⟩
theorem Bk.jump (hb : Bk k m B) (i : Ins) (x : Int) (hk : k < 1000000) : Bk (k + 1) m (B.jump i x) :=
  ⟨Bd.ok_jump hb.1 x (by have := hb.2.1; omega), Nat.le_trans (Bd.jump_n _ _ _).1 (by have := hb.2.1; omega), by rw [(Bd.jump_n _ _ _).2]; exact hb.2.2⟩
theorem Bk.up {k' m' : Nat} (hb : Bk k m B) (h1 : k ≤ k') (h2 : m ≤ m') : Bk k' m' B := ⟨hb.1, Nat.le_trans hb.2.1 h1, Nat.le_trans hb.2.2 h2⟩
theorem Bd.add_add (B : Bd) (a b : List Ins) : (B.add a).add b = B.add (a ++ b) := by simp [Bd.add]
theorem jmps_le (B : Bd) : (jmps 0 B.items).length ≤ B.items.length := by
  have : ∀ (k : Nat) (its : List (Ins × Int)), (jmps k its).length ≤ its.length := by
    intro k its
    induction its generalizing k with
    | nil => simp [jmps]
    | cons p r ih =>
      obtain ⟨i, to⟩ := p
      simp only [jmps]
      have := ih (k + 1)
      split <;> simp <;> omega
  exact this 0 _

theorem pAdd (s : St BdH g0 fp0 lb l5 h g fp B k m) {x : Value} {ys : List Ins} (hx : Sl encI 5 g x ys) (h0 : 0 < ys.length) (hl : ∀ i ∈ ys, 0 ≤ i.op ∧ i.op ≤ 22) (hk : k + ys.length ≤ 1000000) {K : Cont}
    (hK : ∀ v g' n' fp', St BdH g0 fp0 lb l5 h g' fp' (B.add ys) (k + ys.length) m → K v g' n') : AC emit_Builder_Add_id [ptr lb 0, x] g n K :=
  Add_spec s.b hx h0 (by have := s.bk.2.1; omega) fun g' n' fp' hB u => hK _ g' n' fp' (s.move hB u (s.bk.add hl hk))
theorem pMark (s : St BdH g0 fp0 lb l5 h g fp B k m) (hm : m ≤ 1000000) {K : Cont}
    (hK : ∀ g' n' fp', St BdH g0 fp0 lb l5 h g' fp' B.mark k (m + 1) → K (.int .i64 B.marks.length) g' n') : AC emit_Builder_Mark_id [ptr lb 0] g n K :=
  Mark_spec s.b (by have := s.bk.2.2; omega) fun g' n' fp' hB u => hK g' n' fp' (s.move hB u s.bk.mark)
theorem pHere (s : St BdH g0 fp0 lb l5 h g fp B k m) {x : Int} {K : Cont}
    (hK : ∀ v g' n' fp', St BdH g0 fp0 lb l5 h g' fp' (B.here x) k m → K v g' n') : AC emit_Builder_Here_id [ptr lb 0, .int .i64 x] g n K :=
  Here_spec s.b fun g' n' fp' hB u => hK _ g' n' fp' (s.move hB u (s.bk.here x))
theorem pJump (s : St BdH g0 fp0 lb l5 h g fp B k m) {i : Ins} {x : Int} (hk : k < 1000000) {K : Cont}
    (hK : ∀ v g' n' fp', St BdH g0 fp0 lb l5 h g' fp' (B.jump i x) (k + 1) m → K v g' n') : AC emit_Builder_Jump_id [ptr lb 0, .agg (encI i).toArray, .int .i64 x] g n K :=
  Jump_spec s.b (by have := s.bk.2.1; omega) (Nat.le_trans (jmps_le B) (by have := s.bk.2.1; omega)) fun g' n' fp' hB u => hK _ g' n' fp' (s.move hB u (s.bk.jump i x hk))
theorem qAdd (s : St RbH g0 fp0 lb l5 h g fp B k m) {x : Value} {ys : List Ins} (hx : Sl encI 5 g x ys) (h0 : 0 < ys.length) (hl : ∀ i ∈ ys, 0 ≤ i.op ∧ i.op ≤ 22) (hd : ∀ l, blkOf x = some l → l ∉ fp) (hk : k + ys.length ≤ 1000000) {K : Cont}
    (hK : ∀ v g' n' fp', St RbH g0 fp0 lb l5 h g' fp' (B.add ys) (k + ys.length) m → K v g' n') : AC bellowsref21_Builder_Add_id [ptr lb 0, x] g n K :=
  rAdd_spec s.b hx hd (by have := s.bk.2.1; omega) fun g' n' fp' hB u => hK _ g' n' fp' (s.move hB u (s.bk.add hl hk))
theorem qMark (s : St RbH g0 fp0 lb l5 h g fp B k m) (hm : m ≤ 1000000) {K : Cont}
    (hK : ∀ g' n' fp', St RbH g0 fp0 lb l5 h g' fp' B.mark k (m + 1) → K (.int .i64 B.marks.length) g' n') : AC bellowsref21_Builder_Mark_id [ptr lb 0] g n K :=
  rMark_spec s.b (by have := s.bk.2.2; omega) fun g' n' fp' hB u => hK g' n' fp' (s.move hB u s.bk.mark)
theorem qHere (s : St RbH g0 fp0 lb l5 h g fp B k m) {x : Int} {K : Cont}
    (hK : ∀ v g' n' fp', St RbH g0 fp0 lb l5 h g' fp' (B.here x) k m → K v g' n') : AC bellowsref21_Builder_Here_id [ptr lb 0, .int .i64 x] g n K :=
  rHere_spec s.b fun g' n' fp' hB u => hK _ g' n' fp' (s.move hB u (s.bk.here x))
theorem qJump (s : St RbH g0 fp0 lb l5 h g fp B k m) {i : Ins} {x : Int} (hk : k < 1000000) {K : Cont}
    (hK : ∀ v g' n' fp', St RbH g0 fp0 lb l5 h g' fp' (B.jump i x) (k + 1) m → K v g' n') : AC bellowsref21_Builder_Jump_id [ptr lb 0, .agg (encI i).toArray, .int .i64 x] g n K :=
  rJump_spec s.b (by have := s.bk.2.1; omega) fun g' n' fp' hB u => hK _ g' n' fp' (s.move hB u (s.bk.jump i x hk))
theorem litF1 (a : Ins) {K : List Value → Prop} (kk : K ((([a] : List Ins).map encI).flatten)) : kFill (reps 1 [(.int .i64 0), (.int .i64 0), (.int .i64 0), (.int .i64 0), (.int .i64 0)]) [(0, (some 5), .agg (encI a).toArray)] K :=
  ⟨rfl, by simp [reps], kk⟩
theorem pLit1 {a : Ins} (s : St BdH g0 fp0 lb l5 h g fp B k m) (hl : ∀ i ∈ ([a] : List Ins), 0 ≤ i.op ∧ i.op ≤ 22) (hk : k + 1 ≤ 1000000) {K : List Value → Nat → Value → G → Nat → Prop}
    (hK : ∀ cc l v g' n' fp', St BdH g0 fp0 lb l5 h g' fp' (B.add [a]) (k + 1) m → K cc l v g' n') :
    kFill (reps 1 [(.int .i64 0), (.int .i64 0), (.int .i64 0), (.int .i64 0), (.int .i64 0)]) [(0, (some 5), .agg (encI a).toArray)] fun c => kNew c .exact g n fun l g' n' => AC emit_Builder_Add_id [ptr lb 0, .slice (some ⟨l, 0, none⟩) 1 1] g' n' fun v g'' n'' => K c l v g'' n'' := by
  refine litF1 a fun hn => ?_
  have hs := (Sub.refl g).new hn (some (.cells ((([a] : List Ins).map encI).flatten) .exact))
  exact pAdd (s.sub hs) (sl_lit (upd_same _ _ _) 1 rfl 1) (by simp) hl hk fun v g' n' fp' s' => hK _ _ _ _ _ _ s'
theorem qLit1 {a : Ins} (s : St RbH g0 fp0 lb l5 h g fp B k m) (hl : ∀ i ∈ ([a] : List Ins), 0 ≤ i.op ∧ i.op ≤ 22) (hk : k + 1 ≤ 1000000) {K : List Value → Nat → Value → G → Nat → Prop}
    (hK : ∀ cc l v g' n' fp', St RbH g0 fp0 lb l5 h g' fp' (B.add [a]) (k + 1) m → K cc l v g' n') :
    kFill (reps 1 [(.int .i64 0), (.int .i64 0), (.int .i64 0), (.int .i64 0), (.int .i64 0)]) [(0, (some 5), .agg (encI a).toArray)] fun c => kNew c .exact g n fun l g' n' => AC bellowsref21_Builder_Add_id [ptr lb 0, .slice (some ⟨l, 0, none⟩) 1 1] g' n' fun v g'' n'' => K c l v g'' n'' := by
  refine litF1 a fun hn => ?_
  have hs := (Sub.refl g).new hn (some (.cells ((([a] : List Ins).map encI).flatten) .exact))
  exact qAdd (s.rsub hs) (sl_lit (upd_same _ _ _) 1 rfl 1) (by simp) hl (dis_lit s.b hn) hk fun v g' n' fp' s' => hK _ _ _ _ _ _ s'
theorem litF2 (a b : Ins) {K : List Value → Prop} (kk : K ((([a, b] : List Ins).map encI).flatten)) : kFill (reps 2 [(.int .i64 0), (.int .i64 0), (.int .i64 0), (.int .i64 0), (.int .i64 0)]) [(0, (some 5), .agg (encI a).toArray), (5, (some 5), .agg (encI b).toArray)] K :=
  ⟨rfl, by simp [reps], rfl, by simp [reps, splice, encI_len], kk⟩
theorem pLit2 {a b : Ins} (s : St BdH g0 fp0 lb l5 h g fp B k m) (hl : ∀ i ∈ ([a, b] : List Ins), 0 ≤ i.op ∧ i.op ≤ 22) (hk : k + 2 ≤ 1000000) {K : List Value → Nat → Value → G → Nat → Prop}
    (hK : ∀ cc l v g' n' fp', St BdH g0 fp0 lb l5 h g' fp' (B.add [a, b]) (k + 2) m → K cc l v g' n') :
    kFill (reps 2 [(.int .i64 0), (.int .i64 0), (.int .i64 0), (.int .i64 0), (.int .i64 0)]) [(0, (some 5), .agg (encI a).toArray), (5, (some 5), .agg (encI b).toArray)] fun c => kNew c .exact g n fun l g' n' => AC emit_Builder_Add_id [ptr lb 0, .slice (some ⟨l, 0, none⟩) 2 2] g' n' fun v g'' n'' => K c l v g'' n'' := by
  refine litF2 a b fun hn => ?_
  have hs := (Sub.refl g).new hn (some (.cells ((([a, b] : List Ins).map encI).flatten) .exact))
  exact pAdd (s.sub hs) (sl_lit (upd_same _ _ _) 2 rfl 2) (by simp) hl hk fun v g' n' fp' s' => hK _ _ _ _ _ _ s'
theorem qLit2 {a b : Ins} (s : St RbH g0 fp0 lb l5 h g fp B k m) (hl : ∀ i ∈ ([a, b] : List Ins), 0 ≤ i.op ∧ i.op ≤ 22) (hk : k + 2 ≤ 1000000) {K : List Value → Nat → Value → G → Nat → Prop}
    (hK : ∀ cc l v g' n' fp', St RbH g0 fp0 lb l5 h g' fp' (B.add [a, b]) (k + 2) m → K cc l v g' n') :
    kFill (reps 2 [(.int .i64 0), (.int .i64 0), (.int .i64 0), (.int .i64 0), (.int .i64 0)]) [(0, (some 5), .agg (encI a).toArray), (5, (some 5), .agg (encI b).toArray)] fun c => kNew c .exact g n fun l g' n' => AC bellowsref21_Builder_Add_id [ptr lb 0, .slice (some ⟨l, 0, none⟩) 2 2] g' n' fun v g'' n'' => K c l v g'' n'' := by
  refine litF2 a b fun hn => ?_
  have hs := (Sub.refl g).new hn (some (.cells ((([a, b] : List Ins).map encI).flatten) .exact))
  exact qAdd (s.rsub hs) (sl_lit (upd_same _ _ _) 2 rfl 2) (by simp) hl (dis_lit s.b hn) hk fun v g' n' fp' s' => hK _ _ _ _ _ _ s'
theorem litF3 (a b c : Ins) {K : List Value → Prop} (kk : K ((([a, b, c] : List Ins).map encI).flatten)) : kFill (reps 3 [(.int .i64 0), (.int .i64 0), (.int .i64 0), (.int .i64 0), (.int .i64 0)]) [(0, (some 5), .agg (encI a).toArray), (5, (some 5), .agg (encI b).toArray), (10, (some 5), .agg (encI c).toArray)] K :=
  ⟨rfl, by simp [reps], rfl, by simp [reps, splice, encI_len], rfl, by simp [reps, splice, encI_len], kk⟩
theorem pLit3 {a b c : Ins} (s : St BdH g0 fp0 lb l5 h g fp B k m) (hl : ∀ i ∈ ([a, b, c] : List Ins), 0 ≤ i.op ∧ i.op ≤ 22) (hk : k + 3 ≤ 1000000) {K : List Value → Nat → Value → G → Nat → Prop}
    (hK : ∀ cc l v g' n' fp', St BdH g0 fp0 lb l5 h g' fp' (B.add [a, b, c]) (k + 3) m → K cc l v g' n') :
    kFill (reps 3 [(.int .i64 0), (.int .i64 0), (.int .i64 0), (.int .i64 0), (.int .i64 0)]) [(0, (some 5), .agg (encI a).toArray), (5, (some 5), .agg (encI b).toArray), (10, (some 5), .agg (encI c).toArray)] fun c => kNew c .exact g n fun l g' n' => AC emit_Builder_Add_id [ptr lb 0, .slice (some ⟨l, 0, none⟩) 3 3] g' n' fun v g'' n'' => K c l v g'' n'' := by
  refine litF3 a b c fun hn => ?_
  have hs := (Sub.refl g).new hn (some (.cells ((([a, b, c] : List Ins).map encI).flatten) .exact))
  exact pAdd (s.sub hs) (sl_lit (upd_same _ _ _) 3 rfl 3) (by simp) hl hk fun v g' n' fp' s' => hK _ _ _ _ _ _ s'
theorem qLit3 {a b c : Ins} (s : St RbH g0 fp0 lb l5 h g fp B k m) (hl : ∀ i ∈ ([a, b, c] : List Ins), 0 ≤ i.op ∧ i.op ≤ 22) (hk : k + 3 ≤ 1000000) {K : List Value → Nat → Value → G → Nat → Prop}
    (hK : ∀ cc l v g' n' fp', St RbH g0 fp0 lb l5 h g' fp' (B.add [a, b, c]) (k + 3) m → K cc l v g' n') :
    kFill (reps 3 [(.int .i64 0), (.int .i64 0), (.int .i64 0), (.int .i64 0), (.int .i64 0)]) [(0, (some 5), .agg (encI a).toArray), (5, (some 5), .agg (encI b).toArray), (10, (some 5), .agg (encI c).toArray)] fun c => kNew c .exact g n fun l g' n' => AC bellowsref21_Builder_Add_id [ptr lb 0, .slice (some ⟨l, 0, none⟩) 3 3] g' n' fun v g'' n'' => K c l v g'' n'' := by
  refine litF3 a b c fun hn => ?_
  have hs := (Sub.refl g).new hn (some (.cells ((([a, b, c] : List Ins).map encI).flatten) .exact))
  exact qAdd (s.rsub hs) (sl_lit (upd_same _ _ _) 3 rfl 3) (by simp) hl (dis_lit s.b hn) hk fun v g' n' fp' s' => hK _ _ _ _ _ _ s'
theorem litF4 (a b c d : Ins) {K : List Value → Prop} (kk : K ((([a, b, c, d] : List Ins).map encI).flatten)) : kFill (reps 4 [(.int .i64 0), (.int .i64 0), (.int .i64 0), (.int .i64 0), (.int .i64 0)]) [(0, (some 5), .agg (encI a).toArray), (5, (some 5), .agg (encI b).toArray), (10, (some 5), .agg (encI c).toArray), (15, (some 5), .agg (encI d).toArray)] K :=
  ⟨rfl, by simp [reps], rfl, by simp [reps, splice, encI_len], rfl, by simp [reps, splice, encI_len], rfl, by simp [reps, splice, encI_len], kk⟩
theorem pLit4 {a b c d : Ins} (s : St BdH g0 fp0 lb l5 h g fp B k m) (hl : ∀ i ∈ ([a, b, c, d] : List Ins), 0 ≤ i.op ∧ i.op ≤ 22) (hk : k + 4 ≤ 1000000) {K : List Value → Nat → Value → G → Nat → Prop}
    (hK : ∀ cc l v g' n' fp', St BdH g0 fp0 lb l5 h g' fp' (B.add [a, b, c, d]) (k + 4) m → K cc l v g' n') :
    kFill (reps 4 [(.int .i64 0), (.int .i64 0), (.int .i64 0), (.int .i64 0), (.int .i64 0)]) [(0, (some 5), .agg (encI a).toArray), (5, (some 5), .agg (encI b).toArray), (10, (some 5), .agg (encI c).toArray), (15, (some 5), .agg (encI d).toArray)] fun c => kNew c .exact g n fun l g' n' => AC emit_Builder_Add_id [ptr lb 0, .slice (some ⟨l, 0, none⟩) 4 4] g' n' fun v g'' n'' => K c l v g'' n'' := by
  refine litF4 a b c d fun hn => ?_
  have hs := (Sub.refl g).new hn (some (.cells ((([a, b, c, d] : List Ins).map encI).flatten) .exact))
  exact pAdd (s.sub hs) (sl_lit (upd_same _ _ _) 4 rfl 4) (by simp) hl hk fun v g' n' fp' s' => hK _ _ _ _ _ _ s'
theorem qLit4 {a b c d : Ins} (s : St RbH g0 fp0 lb l5 h g fp B k m) (hl : ∀ i ∈ ([a, b, c, d] : List Ins), 0 ≤ i.op ∧ i.op ≤ 22) (hk : k + 4 ≤ 1000000) {K : List Value → Nat → Value → G → Nat → Prop}
    (hK : ∀ cc l v g' n' fp', St RbH g0 fp0 lb l5 h g' fp' (B.add [a, b, c, d]) (k + 4) m → K cc l v g' n') :
    kFill (reps 4 [(.int .i64 0), (.int .i64 0), (.int .i64 0), (.int .i64 0), (.int .i64 0)]) [(0, (some 5), .agg (encI a).toArray), (5, (some 5), .agg (encI b).toArray), (10, (some 5), .agg (encI c).toArray), (15, (some 5), .agg (encI d).toArray)] fun c => kNew c .exact g n fun l g' n' => AC bellowsref21_Builder_Add_id [ptr lb 0, .slice (some ⟨l, 0, none⟩) 4 4] g' n' fun v g'' n'' => K c l v g'' n'' := by
  refine litF4 a b c d fun hn => ?_
  have hs := (Sub.refl g).new hn (some (.cells ((([a, b, c, d] : List Ins).map encI).flatten) .exact))
  exact qAdd (s.rsub hs) (sl_lit (upd_same _ _ _) 4 rfl 4) (by simp) hl (dis_lit s.b hn) hk fun v g' n' fp' s' => hK _ _ _ _ _ _ s'
theorem litF6 (a b c d e f : Ins) {K : List Value → Prop} (kk : K ((([a, b, c, d, e, f] : List Ins).map encI).flatten)) : kFill (reps 6 [(.int .i64 0), (.int .i64 0), (.int .i64 0), (.int .i64 0), (.int .i64 0)]) [(0, (some 5), .agg (encI a).toArray), (5, (some 5), .agg (encI b).toArray), (10, (some 5), .agg (encI c).toArray), (15, (some 5), .agg (encI d).toArray), (20, (some 5), .agg (encI e).toArray), (25, (some 5), .agg (encI f).toArray)] K :=
  ⟨rfl, by simp [reps], rfl, by simp [reps, splice, encI_len], rfl, by simp [reps, splice, encI_len], rfl, by simp [reps, splice, encI_len], rfl, by simp [reps, splice, encI_len], rfl, by simp [reps, splice, encI_len], kk⟩
theorem pLit6 {a b c d e f : Ins} (s : St BdH g0 fp0 lb l5 h g fp B k m) (hl : ∀ i ∈ ([a, b, c, d, e, f] : List Ins), 0 ≤ i.op ∧ i.op ≤ 22) (hk : k + 6 ≤ 1000000) {K : List Value → Nat → Value → G → Nat → Prop}
    (hK : ∀ cc l v g' n' fp', St BdH g0 fp0 lb l5 h g' fp' (B.add [a, b, c, d, e, f]) (k + 6) m → K cc l v g' n') :
    kFill (reps 6 [(.int .i64 0), (.int .i64 0), (.int .i64 0), (.int .i64 0), (.int .i64 0)]) [(0, (some 5), .agg (encI a).toArray), (5, (some 5), .agg (encI b).toArray), (10, (some 5), .agg (encI c).toArray), (15, (some 5), .agg (encI d).toArray), (20, (some 5), .agg (encI e).toArray), (25, (some 5), .agg (encI f).toArray)] fun c => kNew c .exact g n fun l g' n' => AC emit_Builder_Add_id [ptr lb 0, .slice (some ⟨l, 0, none⟩) 6 6] g' n' fun v g'' n'' => K c l v g'' n'' := by
  refine litF6 a b c d e f fun hn => ?_
  have hs := (Sub.refl g).new hn (some (.cells ((([a, b, c, d, e, f] : List Ins).map encI).flatten) .exact))
  exact pAdd (s.sub hs) (sl_lit (upd_same _ _ _) 6 rfl 6) (by simp) hl hk fun v g' n' fp' s' => hK _ _ _ _ _ _ s'
theorem qLit6 {a b c d e f : Ins} (s : St RbH g0 fp0 lb l5 h g fp B k m) (hl : ∀ i ∈ ([a, b, c, d, e, f] : List Ins), 0 ≤ i.op ∧ i.op ≤ 22) (hk : k + 6 ≤ 1000000) {K : List Value → Nat → Value → G → Nat → Prop}
    (hK : ∀ cc l v g' n' fp', St RbH g0 fp0 lb l5 h g' fp' (B.add [a, b, c, d, e, f]) (k + 6) m → K cc l v g' n') :
    kFill (reps 6 [(.int .i64 0), (.int .i64 0), (.int .i64 0), (.int .i64 0), (.int .i64 0)]) [(0, (some 5), .agg (encI a).toArray), (5, (some 5), .agg (encI b).toArray), (10, (some 5), .agg (encI c).toArray), (15, (some 5), .agg (encI d).toArray), (20, (some 5), .agg (encI e).toArray), (25, (some 5), .agg (encI f).toArray)] fun c => kNew c .exact g n fun l g' n' => AC bellowsref21_Builder_Add_id [ptr lb 0, .slice (some ⟨l, 0, none⟩) 6 6] g' n' fun v g'' n'' => K c l v g'' n'' := by
  refine litF6 a b c d e f fun hn => ?_
  have hs := (Sub.refl g).new hn (some (.cells ((([a, b, c, d, e, f] : List Ins).map encI).flatten) .exact))
  exact qAdd (s.rsub hs) (sl_lit (upd_same _ _ _) 6 rfl 6) (by simp) hl (dis_lit s.b hn) hk fun v g' n' fp' s' => hK _ _ _ _ _ _ s'
theorem pLi {r x : Int} {K : Cont} (hK : ∀ g' n', Sub g g' → K (.agg (encI (liI r x)).toArray) g' n') : AC undo_li_id [.int .i64 r, .int .u64 x] g n K := by
  refine ACalls.fold X0_mono ?_
  rw [← undo_li_eq]
  simp only [undo_li, kConv_i]
  intro hn
  have hu : Sub g (upd g n (some (.cells [(.int .i64 0), (.int .i64 0), (.int .i64 0), (.int .i64 0), (.int .i64 0)] .exact))) := (Sub.refl g).new hn _
  refine ⟨rfl, by simp, rfl, by simp, rfl, by simp, ?_⟩
  refine ⟨rfl, kStN_of (upd_same _ _ _) rfl (by simp) (encI_cell (liI r x)) ?_⟩
  refine ldI (x := (liI r x)) (upd_same _ _ _) (aRet_of (Sub.refl _) (hK _ _ ?_))
  exact (hu.upd_fresh _ hn)
theorem pSt {a b c : Int} {K : Cont} (hK : ∀ g' n', Sub g g' → K (.agg (encI ⟨9, a, b, 0, c⟩).toArray) g' n') : AC undo_st_id [.int .i64 a, .int .i64 b, .int .i64 c] g n K := by
  refine ACalls.fold X0_mono ?_
  rw [← undo_st_eq]
  simp only [undo_st]
  intro hn
  have hu : Sub g (upd g n (some (.cells [(.int .i64 0), (.int .i64 0), (.int .i64 0), (.int .i64 0), (.int .i64 0)] .exact))) := (Sub.refl g).new hn _
  refine ⟨rfl, by simp, rfl, by simp, rfl, by simp, rfl, by simp, ?_⟩
  refine ⟨rfl, kStN_of (upd_same _ _ _) rfl (by simp) (encI_cell ⟨9, a, b, 0, c⟩) ?_⟩
  refine ldI (x := ⟨9, a, b, 0, c⟩) (upd_same _ _ _) (aRet_of (Sub.refl _) (hK _ _ ?_))
  exact (hu.upd_fresh _ hn)
theorem pLd {a b c : Int} {K : Cont} (hK : ∀ g' n', Sub g g' → K (.agg (encI ⟨8, a, b, 0, c⟩).toArray) g' n') : AC undo_ld_id [.int .i64 a, .int .i64 b, .int .i64 c] g n K := by
  refine ACalls.fold X0_mono ?_
  rw [← undo_ld_eq]
  simp only [undo_ld]
  intro hn
  have hu : Sub g (upd g n (some (.cells [(.int .i64 0), (.int .i64 0), (.int .i64 0), (.int .i64 0), (.int .i64 0)] .exact))) := (Sub.refl g).new hn _
  refine ⟨rfl, by simp, rfl, by simp, rfl, by simp, rfl, by simp, ?_⟩
  refine ⟨rfl, kStN_of (upd_same _ _ _) rfl (by simp) (encI_cell ⟨8, a, b, 0, c⟩) ?_⟩
  refine ldI (x := ⟨8, a, b, 0, c⟩) (upd_same _ _ _) (aRet_of (Sub.refl _) (hK _ _ ?_))
  exact (hu.upd_fresh _ hn)
theorem pCl {b : Int} {K : Cont} (hK : ∀ g' n', Sub g g' → K (.agg (encI ⟨12, 0, b, 0, 0⟩).toArray) g' n') : AC undo_clwb_id [.int .i64 b] g n K := by
  refine ACalls.fold X0_mono ?_
  rw [← undo_clwb_eq]
  simp only [undo_clwb]
  intro hn
  have hu : Sub g (upd g n (some (.cells [(.int .i64 0), (.int .i64 0), (.int .i64 0), (.int .i64 0), (.int .i64 0)] .exact))) := (Sub.refl g).new hn _
  refine ⟨rfl, by simp, rfl, by simp, ?_⟩
  refine ⟨rfl, kStN_of (upd_same _ _ _) rfl (by simp) (encI_cell ⟨12, 0, b, 0, 0⟩) ?_⟩
  refine ldI (x := ⟨12, 0, b, 0, 0⟩) (upd_same _ _ _) (aRet_of (Sub.refl _) (hK _ _ ?_))
  exact (hu.upd_fresh _ hn)
theorem pTh {o a b c : Int} {K : Cont} (hK : ∀ g' n', Sub g g' → K (.agg (encI ⟨o, a, b, c, 0⟩).toArray) g' n') : AC undo_three_id [.int .i64 o, .int .i64 a, .int .i64 b, .int .i64 c] g n K := by
  refine ACalls.fold X0_mono ?_
  rw [← undo_three_eq]
  simp only [undo_three]
  intro hn
  have hu : Sub g (upd g n (some (.cells [(.int .i64 0), (.int .i64 0), (.int .i64 0), (.int .i64 0), (.int .i64 0)] .exact))) := (Sub.refl g).new hn _
  refine ⟨rfl, by simp, rfl, by simp, rfl, by simp, rfl, by simp, ?_⟩
  refine ⟨rfl, kStN_of (upd_same _ _ _) rfl (by simp) (encI_cell ⟨o, a, b, c, 0⟩) ?_⟩
  refine ldI (x := ⟨o, a, b, c, 0⟩) (upd_same _ _ _) (aRet_of (Sub.refl _) (hK _ _ ?_))
  exact (hu.upd_fresh _ hn)
theorem qOp {o a b c : Int} {K : Cont} (hK : ∀ g' n', Sub g g' → K (.agg (encI ⟨o, a, b, c, 0⟩).toArray) g' n') : AC bellowsref24_op_id [.int .i64 o, .int .i64 a, .int .i64 b, .int .i64 c] g n K := by
  refine ACalls.fold X0_mono ?_
  rw [← bellowsref24_op_eq]
  simp only [bellowsref24_op]
  intro hn
  have hu : Sub g (upd g n (some (.cells [(.int .i64 0), (.int .i64 0), (.int .i64 0), (.int .i64 0), (.int .i64 0)] .exact))) := (Sub.refl g).new hn _
  refine ⟨rfl, by simp, rfl, by simp, rfl, by simp, rfl, by simp, ?_⟩
  refine ⟨rfl, kStN_of (upd_same _ _ _) rfl (by simp) (encI_cell ⟨o, a, b, c, 0⟩) ?_⟩
  refine ldI (x := ⟨o, a, b, c, 0⟩) (upd_same _ _ _) (aRet_of (Sub.refl _) (hK _ _ ?_))
  exact (hu.upd_fresh _ hn)
theorem qMem {o a b c : Int} {K : Cont} (hK : ∀ g' n', Sub g g' → K (.agg (encI ⟨o, a, b, 0, c⟩).toArray) g' n') : AC bellowsref24_mem_id [.int .i64 o, .int .i64 a, .int .i64 b, .int .i64 c] g n K := by
  refine ACalls.fold X0_mono ?_
  rw [← bellowsref24_mem_eq]
  simp only [bellowsref24_mem]
  intro hn
  have hu : Sub g (upd g n (some (.cells [(.int .i64 0), (.int .i64 0), (.int .i64 0), (.int .i64 0), (.int .i64 0)] .exact))) := (Sub.refl g).new hn _
  refine ⟨rfl, by simp, rfl, by simp, rfl, by simp, rfl, by simp, ?_⟩
  refine ⟨rfl, kStN_of (upd_same _ _ _) rfl (by simp) (encI_cell ⟨o, a, b, 0, c⟩) ?_⟩
  refine ldI (x := ⟨o, a, b, 0, c⟩) (upd_same _ _ _) (aRet_of (Sub.refl _) (hK _ _ ?_))
  exact (hu.upd_fresh _ hn)
theorem rLi {r x : Int} {K : Cont} (hK : ∀ g' n', Sub g g' → K (.agg (encI (liI r x)).toArray) g' n') : AC bellowsref23_Li_id [.int .i64 r, .int .u64 x] g n K := by
  refine ACalls.fold X0_mono ?_
  rw [← bellowsref23_Li_eq]
  simp only [bellowsref23_Li, kConv_i]
  intro hn
  have hu : Sub g (upd g n (some (.cells [(.int .i64 0), (.int .i64 0), (.int .i64 0), (.int .i64 0), (.int .i64 0)] .exact))) := (Sub.refl g).new hn _
  refine ⟨rfl, by simp, rfl, by simp, rfl, by simp, ?_⟩
  refine ⟨rfl, kStN_of (upd_same _ _ _) rfl (by simp) (encI_cell (liI r x)) ?_⟩
  refine ldI (x := (liI r x)) (upd_same _ _ _) (aRet_of (Sub.refl _) (hK _ _ ?_))
  exact (hu.upd_fresh _ hn)
theorem pFe {K : Cont} (hK : ∀ g' n', Sub g g' → K (.agg (encI ⟨15, 0, 0, 0, 0⟩).toArray) g' n') : AC undo_fence_id [] g n K := by
  refine ACalls.fold X0_mono ?_
  rw [← undo_fence_eq]
  simp only [undo_fence]
  intro hn
  have hu : Sub g (upd g n (some (.cells [(.int .i64 0), (.int .i64 0), (.int .i64 0), (.int .i64 0), (.int .i64 0)] .exact))) := (Sub.refl g).new hn _
  refine ⟨rfl, by simp, ?_⟩
  refine ⟨rfl, kStN_of (upd_same _ _ _) rfl (by simp) (encI_cell ⟨15, 0, 0, 0, 0⟩) ?_⟩
  refine ldI (x := ⟨15, 0, 0, 0, 0⟩) (upd_same _ _ _) (aRet_of (Sub.refl _) (hK _ _ ?_))
  exact (hu.upd_fresh _ hn)
theorem qLi {r x : Int} {K : Cont} (hK : ∀ g' n', Sub g g' → K (.agg (encI (liI r x)).toArray) g' n') : AC bellowsref24_li_id [.int .i64 r, .int .u64 x] g n K := by
  refine ACalls.fold X0_mono ?_
  rw [← bellowsref24_li_eq]
  simp only [bellowsref24_li]
  intro hn
  have hu : Sub g (upd g n (some (.cells [(.int .i64 0), (.int .i64 0), (.int .i64 0), (.int .i64 0), (.int .i64 0)] .exact))) := (Sub.refl g).new hn _
  refine rLi fun g2 n2 h2 => ?_
  refine ⟨rfl, kStN_of (h2.live (upd_same _ _ _)) rfl (by simp [encI_len]) (encI_cell (liI r x)) ?_⟩
  refine ldI (x := liI r x) (upd_same _ _ _) (aRet_of (Sub.refl _) (hK _ _ ?_))
  exact (hu.trans h2).upd_fresh _ hn
theorem fillOp (o : Int) {K : List Value → Prop} (kk : K (encI ⟨o, 0, 0, 0, 0⟩)) : kFill [(.int .i64 0), (.int .i64 0), (.int .i64 0), (.int .i64 0), (.int .i64 0)] [(0, none, (.int .i64 o))] K := ⟨rfl, by simp, kk⟩
end Go.Proofs.YtecojalpbppfeaaGreat.Gen

namespace Go.Proofs.YtecojalpbppfeaaGreat.Gen
open Go Go.Proofs.YtecojalpbppfeaaGreat.Abs Go.RowKit
variable {g : G} {n : Nat}
/-! ## begin, note, back: what they add -/
def entryL (h : Hp) : List Ins := [liI 0 4, ⟨6, 6, 7, 0, 0⟩, liI 0 (entryH h), ⟨2, 6, 6, 0, 0⟩]
def noughtL (h : Hp) : List Ins := [⟨15, 0, 0, 0, 0⟩, liI 6 (countH h), liI 0 0, ⟨9, 0, 6, 0, 0⟩, ⟨12, 0, 6, 0, 0⟩, ⟨15, 0, 0, 0, 0⟩]
def noteB (h : Hp) (w f : Int) (B : Bd) : Bd := if GoodH h ∧ 0 ≤ w ∧ w < 8 * h.hl then
  ((((B.add [liI 0 (roomH h)]).jump ⟨18, 7, 0, 0, 0⟩ f).add (entryL h)).add [liI 1 (wordH h w), ⟨9, 1, 6, 0, 0⟩, ⟨8, 4, 1, 0, 0⟩, ⟨9, 4, 6, 0, 8⟩, ⟨12, 0, 6, 0, 0⟩, ⟨15, 0, 0, 0, 0⟩]).add [liI 0 1, ⟨2, 7, 7, 0, 0⟩, liI 6 (countH h), ⟨9, 7, 6, 0, 0⟩, ⟨12, 0, 6, 0, 0⟩, ⟨15, 0, 0, 0, 0⟩] else B
def backB (h : Hp) (B : Bd) : Bd := if GoodH h then
  (((((((((B.mark.mark.here B.marks.length).add [liI 0 0]).jump ⟨18, 7, 0, 0, 0⟩ B.mark.marks.length).add [liI 0 1, ⟨3, 7, 7, 0, 0⟩]).add (entryL h)).add [⟨8, 1, 6, 0, 0⟩, ⟨8, 4, 6, 0, 8⟩, ⟨9, 4, 1, 0, 0⟩, ⟨12, 0, 1, 0, 0⟩]).jump ⟨17, 0, 0, 0, 0⟩ B.marks.length).here B.mark.marks.length).add (noughtL h)) else B
theorem St.init {g : G} {n : Nat} {fp : List Nat} {lb k m : Nat} {h : Hp} {B : Bd} (hB : BdH g fp lb B) (hn : g n = none) (hk : Bk k m B) : St BdH g fp lb n h (upd g n (some (.cells (encH h) .exact))) fp B k m :=
  ⟨hB.mono ((Sub.refl g).new hn _), Upd.sub ((Sub.refl g).new hn _), upd_same _ _ _, fun hm => (by obtain ⟨b, hb⟩ := hB.live _ hm; rw [hn] at hb; cases hb), hk⟩
theorem St.rinit {g : G} {n : Nat} {fp : List Nat} {lb k m : Nat} {h : Hp} {B : Bd} (hB : RbH g fp lb B) (hn : g n = none) (hk : Bk k m B) : St RbH g fp lb n h (upd g n (some (.cells (encH h) .exact))) fp B k m :=
  ⟨hB.mono ((Sub.refl g).new hn _), Upd.sub ((Sub.refl g).new hn _), upd_same _ _ _, fun hm => (by obtain ⟨b, hb⟩ := hB.live _ hm; rw [hn] at hb; cases hb), hk⟩
variable {fp : List Nat} {lb k m : Nat} {h : Hp} {B : Bd} {w f : Int}
theorem entry_spec {K : Cont} (hK : ∀ x g' n', Sub g g' → Sl encI 5 g' x (entryL h) → K x g' n') : AC undo_entry_id [.agg (encH h).toArray] g n K := by
  refine ACalls.fold X0_mono ?_
  rw [← undo_entry_eq]
  simp only [undo_entry, kAgg_a, kPtr_p]
  intro hn
  have h1s := (Sub.refl g).new hn (some (.cells (encH h) .exact))
  have hb1 : upd g n (some (.cells (encH h) .exact)) n = some (.cells (encH h) .exact) := upd_same _ _ _
  generalize upd g n (some (.cells (encH h) .exact)) = g1 at h1s hb1
  refine ldH hb1 (pLi fun g2 n2 h2 => ⟨(h2.live hb1).trans hb1.symm, pTh fun g3 n3 h3 => ⟨((h2.trans h3).live hb1).trans (h2.live hb1).symm, Entry_spec fun g4 n4 h4 => pLi fun g5 n5 h5 => pTh fun g6 n6 h6 => litF4 _ _ _ _ fun hn6 => ?_⟩⟩)
  have h7 := (Sub.refl g6).new hn6 (some (.cells (((entryL h).map encI).flatten) .exact))
  exact aRet_of (Sub.refl _) (hK _ _ _ (h1s.trans (h2.trans (h3.trans (h4.trans (h5.trans (h6.trans h7)))))) (sl_lit (upd_same _ _ _) 4 rfl 4))
theorem nought_spec {K : Cont} (hK : ∀ x g' n', Sub g g' → Sl encI 5 g' x (noughtL h) → K x g' n') : AC undo_nought_id [.agg (encH h).toArray] g n K := by
  refine ACalls.fold X0_mono ?_
  rw [← undo_nought_eq]
  simp only [undo_nought, kAgg_a, kPtr_p]
  intro hn
  have h1s := (Sub.refl g).new hn (some (.cells (encH h) .exact))
  have hb1 : upd g n (some (.cells (encH h) .exact)) n = some (.cells (encH h) .exact) := upd_same _ _ _
  generalize upd g n (some (.cells (encH h) .exact)) = g1 at h1s hb1
  refine ldH hb1 (pFe fun g2 n2 h2 => ⟨(h2.live hb1).trans hb1.symm, Count_spec fun g3 n3 h3 => pLi fun g4 n4 h4 => pLi fun g5 n5 h5 => pSt fun g6 n6 h6 => pCl fun g7 n7 h7 => pFe fun g8 n8 h8 => litF6 _ _ _ _ _ _ fun hn8 => ?_⟩)
  have h9 := (Sub.refl g8).new hn8 (some (.cells (((noughtL h).map encI).flatten) .exact))
  exact aRet_of (Sub.refl _) (hK _ _ _ (h1s.trans (h2.trans (h3.trans (h4.trans (h5.trans (h6.trans (h7.trans (h8.trans h9)))))))) (sl_lit (upd_same _ _ _) 6 rfl 6))
theorem Bd.add2 (B : Bd) (a b : List Ins) : (B.add a).add b = B.add (a ++ b) := Bd.add_add B a b
theorem Begin_spec {K : Cont} (hB : BdH g fp lb B) (hk : Bk k m B) (hk2 : k + 1 ≤ 1000000) (hK : ∀ g' n' fp', BdH g' fp' lb (B.add [liI 7 0]) → Upd fp fp' g g' → Bk (k + 1) m (B.add [liI 7 0]) → K (.tuple #[]) g' n') : AC undo_Begin_id [ptr lb 0] g n K := by
  refine ACalls.fold X0_mono ?_
  rw [← undo_Begin_eq]
  simp only [undo_Begin]
  refine pLi fun g1 n1 h1 => litF1 _ fun hn => ?_
  have hs := (Sub.refl g1).new hn (some (.cells ((([liI 7 0] : List Ins).map encI).flatten) .exact))
  refine Add_spec (hB.mono (h1.trans hs)) (sl_lit (upd_same _ _ _) 1 rfl 1) (by simp) (by have := hk.2.1; simp; omega) fun g' n' fp' h4 u => aRet_of (Sub.refl _) ?_
  exact hK _ _ _ h4 ((Upd.sub (h1.trans hs)).trans u) (hk.add (by simp [liI]) (by simpa using hk2))
theorem rBegin_spec {K : Cont} (hB : RbH g fp lb B) (hk : Bk k m B) (hk2 : k + 1 ≤ 1000000) (hK : ∀ g' n' fp', RbH g' fp' lb (B.add [liI 7 0]) → Upd fp fp' g g' → K (.tuple #[]) g' n') : AC bellowsref24_Begin_id [ptr lb 0] g n K := by
  refine ACalls.fold X0_mono ?_
  rw [← bellowsref24_Begin_eq]
  simp only [bellowsref24_Begin]
  refine qLi fun g1 n1 h1 => litF1 _ fun hn => ?_
  have hs := (Sub.refl g1).new hn (some (.cells ((([liI 7 0] : List Ins).map encI).flatten) .exact))
  refine rAdd_spec (hB.mono (h1.trans hs)) (sl_lit (upd_same _ _ _) 1 rfl 1) (dis_lit (hB.mono h1) hn) (by have := hk.2.1; simp; omega) fun g' n' fp' h4 u => aRet_of (Sub.refl _) ?_
  exact hK _ _ _ h4 ((Upd.sub (h1.trans hs)).trans u)
theorem Note_spec {K : Cont} (hB : BdH g fp lb B) (hk : Bk k m B) (hk2 : k + 18 ≤ 1000000) (hK : ∀ g' n' fp', BdH g' fp' lb (noteB h w f B) → Upd fp fp' g g' → Bk (k + 18) m (noteB h w f B) → K (.tuple #[]) g' n') : AC undo_Note_id [ptr lb 0, .agg (encH h).toArray, .int .i64 w, .int .i64 f] g n K := by
  refine ACalls.fold X0_mono ?_
  rw [← undo_Note_eq]
  simp only [undo_Note, kAgg_a, kBin_p_eql, kPtr_p]
  intro hn
  have s := St.init (h := h) hB hn hk
  generalize upd g n (some (.cells (encH h) .exact)) = g1 at s
  have no : ¬ (GoodH h ∧ 0 ≤ w ∧ w < 8 * h.hl) → ∀ g' n', St BdH g fp lb n h g' fp B k m → aRet K (.tuple #[]) g' n' := fun hh g' n' s => by
    have e : noteB h w f B = B := by unfold noteB; rw [if_neg hh]
    rw [e] at hK
    exact aRet_of (Sub.refl _) (hK _ _ _ s.b s.u (s.bk.up (by omega) (Nat.le_refl _)))
  refine kSplit_f rfl (ldH s.hb (GoodH_spec fun _ _ hs => ?_))
  have s := s.sub hs
  rw [kUn_not]
  by_cases hG : GoodH h
  · refine kSplit_f (by simp [hG]) ?_
    rw [kBin_lss]
    refine kSplit_d (fun hh => no (by omega) _ _ s) (fun hw0 => ldH s.hb (Wds_spec fun _ _ hs => ?_))
    have s := s.sub hs
    have ew : wordsH h = 8 * h.hl := by unfold wordsH; rw [if_pos hG]
    rw [kBin_geq, ew]
    refine kSplit_d (fun hh => no (by omega) _ _ s) (fun hw1 => ldH s.hb (Room_spec fun _ _ hs => ?_))
    have s := s.sub hs
    have e : noteB h w f B = _ := if_pos (show GoodH h ∧ 0 ≤ w ∧ w < 8 * h.hl from ⟨hG, by omega, by omega⟩)
    rw [e] at hK
    have hr := roomH_le h
    rw [kConv_i, wU (by omega) (by omega)]
    refine pLi fun _ _ hs => ?_
    have s := s.sub hs
    refine pLit1 s (by simp [liI]) (by omega) fun _ _ _ _ _ _ s => ?_
    refine fillI ⟨18, 7, 0, 0, 0⟩ _ rfl rfl rfl (pJump s (by omega) fun _ _ _ _ s => ?_)
    refine ldH s.hb (entry_spec fun _ _ _ hs hx => ?_)
    have s := s.sub hs
    have he : (entryL h).length = 4 := rfl
    refine pAdd s hx (by omega) (by simp [entryL, liI]) (by omega) fun _ _ _ _ s => ?_
    refine ldH s.hb (Word_spec fun _ _ hs => ?_)
    have s := s.sub hs
    refine pLi fun _ _ hs => ?_
    have s := s.sub hs
    refine pSt fun _ _ hs => ?_
    have s := s.sub hs
    refine pLd fun _ _ hs => ?_
    have s := s.sub hs
    refine pSt fun _ _ hs => ?_
    have s := s.sub hs
    refine pCl fun _ _ hs => ?_
    have s := s.sub hs
    refine pFe fun _ _ hs => ?_
    have s := s.sub hs
    refine pLit6 s (by simp [liI]) (by omega) fun _ _ _ _ _ _ s => ?_
    refine ldH s.hb (pLi fun _ _ hs => ?_)
    refine ⟨(hs.live s.hb).trans s.hb.symm, ?_⟩
    have s := s.sub hs
    refine pTh fun _ _ hs => ⟨(hs.live s.hb).trans s.hb.symm, ?_⟩
    have s := s.sub hs
    refine Count_spec fun _ _ hs => ?_
    have s := s.sub hs
    refine pLi fun _ _ hs => ?_
    have s := s.sub hs
    refine pSt fun _ _ hs => ?_
    have s := s.sub hs
    refine pCl fun _ _ hs => ?_
    have s := s.sub hs
    refine pFe fun _ _ hs => ?_
    have s := s.sub hs
    refine pLit6 s (by simp [liI]) (by omega) fun _ _ _ _ _ _ s => ?_
    exact aRet_of (Sub.refl _) (hK _ _ _ s.b s.u (s.bk.up (by omega) (Nat.le_refl _)))
  · exact kSplit_t (by simp [hG]) (no (fun hh => hG hh.1) _ _ s)
theorem rEnt_spec {K : Cont} (hB : RbH g fp lb B) (hk : Bk k m B) (hk2 : k + 4 ≤ 1000000) (hK : ∀ v g' n' fp', RbH g' fp' lb (B.add (entryL h)) → Upd fp fp' g g' → Bk (k + 4) m (B.add (entryL h)) → K v g' n') : AC bellowsref24_entry_id [ptr lb 0, .agg (encH h).toArray] g n K := by
  refine ACalls.fold X0_mono ?_
  rw [← bellowsref24_entry_eq]
  simp only [bellowsref24_entry, kAgg_a, kPtr_p]
  intro hn
  have s := St.rinit (h := h) hB hn hk
  generalize upd g n (some (.cells (encH h) .exact)) = g1 at s
  refine ldH s.hb (qLi fun _ _ hs => ⟨(hs.live s.hb).trans s.hb.symm, ?_⟩)
  have s := s.rsub hs
  refine qOp fun _ _ hs => ⟨(hs.live s.hb).trans s.hb.symm, ?_⟩
  have s := s.rsub hs
  refine rEntry_spec fun _ _ hs => ?_
  have s := s.rsub hs
  refine qLi fun _ _ hs => ?_
  have s := s.rsub hs
  refine qOp fun _ _ hs => ?_
  have s := s.rsub hs
  refine qLit4 s (by simp [liI]) (by omega) fun _ _ _ _ _ _ s => ?_
  exact aRet_of (Sub.refl _) (hK _ _ _ _ s.b s.u s.bk)
theorem rCountT_spec {r : Int} {K : Cont} (hB : RbH g fp lb B) (hk : Bk k m B) (hk2 : k + 5 ≤ 1000000) (hK : ∀ v g' n' fp', RbH g' fp' lb (B.add [liI 6 (countH h), liI 0 0, ⟨9, r, 6, 0, 0⟩, ⟨12, 0, 6, 0, 0⟩, ⟨15, 0, 0, 0, 0⟩]) → Upd fp fp' g g' → K v g' n') : AC bellowsref24_count_id [ptr lb 0, .agg (encH h).toArray, .int .i64 r, .bool true] g n K := by
  refine ACalls.fold X0_mono ?_
  rw [← bellowsref24_count_eq]
  simp only [bellowsref24_count, kAgg_a, kPtr_p]
  intro hn
  have s := St.rinit (h := h) hB hn hk
  generalize upd g n (some (.cells (encH h) .exact)) = g1 at s
  refine ldH s.hb (rCount_spec fun _ _ hs => ?_)
  have s := s.rsub hs
  refine qLi fun _ _ hs => ?_
  have s := s.rsub hs
  refine qLit1 s (by simp [liI]) (by omega) fun _ _ _ _ _ _ s => ?_
  refine kSplit_t rfl (qLi fun _ _ hs => ?_)
  have s := s.rsub hs
  refine qLit1 s (by simp [liI]) (by omega) fun _ _ _ _ _ _ s => ?_
  simp only [bellowsref24_count_j1]
  refine qMem fun _ _ hs => ?_
  have s := s.rsub hs
  refine qMem fun _ _ hs => ?_
  have s := s.rsub hs
  refine qOp fun _ _ hs => ?_
  have s := s.rsub hs
  refine qLit3 s (by simp) (by omega) fun _ _ _ _ _ _ s => ?_
  have hb := s.b
  simp only [Bd.add_add, List.cons_append, List.nil_append] at hb
  exact aRet_of (Sub.refl _) (hK _ _ _ _ hb s.u)
theorem rCountF_spec {r : Int} {K : Cont} (hB : RbH g fp lb B) (hk : Bk k m B) (hk2 : k + 4 ≤ 1000000) (hK : ∀ v g' n' fp', RbH g' fp' lb (B.add [liI 6 (countH h), ⟨9, r, 6, 0, 0⟩, ⟨12, 0, 6, 0, 0⟩, ⟨15, 0, 0, 0, 0⟩]) → Upd fp fp' g g' → K v g' n') : AC bellowsref24_count_id [ptr lb 0, .agg (encH h).toArray, .int .i64 r, .bool false] g n K := by
  refine ACalls.fold X0_mono ?_
  rw [← bellowsref24_count_eq]
  simp only [bellowsref24_count, kAgg_a, kPtr_p]
  intro hn
  have s := St.rinit (h := h) hB hn hk
  generalize upd g n (some (.cells (encH h) .exact)) = g1 at s
  refine ldH s.hb (rCount_spec fun _ _ hs => ?_)
  have s := s.rsub hs
  refine qLi fun _ _ hs => ?_
  have s := s.rsub hs
  refine qLit1 s (by simp [liI]) (by omega) fun _ _ _ _ _ _ s => ?_
  refine kSplit_f rfl ?_
  simp only [bellowsref24_count_j1]
  refine qMem fun _ _ hs => ?_
  have s := s.rsub hs
  refine qMem fun _ _ hs => ?_
  have s := s.rsub hs
  refine qOp fun _ _ hs => ?_
  have s := s.rsub hs
  refine qLit3 s (by simp) (by omega) fun _ _ _ _ _ _ s => ?_
  have hb := s.b
  simp only [Bd.add_add, List.cons_append, List.nil_append] at hb
  exact aRet_of (Sub.refl _) (hK _ _ _ _ hb s.u)
end Go.Proofs.YtecojalpbppfeaaGreat.Gen

namespace Go.Proofs.YtecojalpbppfeaaGreat.Gen
open Go Go.Proofs.YtecojalpbppfeaaGreat.Abs Go.RowKit
variable {g : G} {n : Nat}
variable {fp : List Nat} {lb k m : Nat} {h : Hp} {B : Bd} {w f : Int}
theorem goodD (hG : GoodH h) : decide (GoodH h) = true := by simp [hG]
theorem rNote_spec {K : Cont} (hB : RbH g fp lb B) (hk : Bk k m B) (hk2 : k + 18 ≤ 1000000) (hK : ∀ g' n' fp', RbH g' fp' lb (noteB h w f B) → Upd fp fp' g g' → K (.tuple #[]) g' n') : AC bellowsref24_Note_id [ptr lb 0, .agg (encH h).toArray, .int .i64 w, .int .i64 f] g n K := by
  refine ACalls.fold X0_mono ?_
  rw [← bellowsref24_Note_eq]
  simp only [bellowsref24_Note, kAgg_a]
  intro hn
  have s := St.rinit (h := h) hB hn hk
  generalize upd g n (some (.cells (encH h) .exact)) = g1 at s
  have no : ¬ (GoodH h ∧ 0 ≤ w ∧ w < 8 * h.hl) → ∀ g' n', St RbH g fp lb n h g' fp B k m → aRet K (.tuple #[]) g' n' := fun hh g' n' s => by
    have e : noteB h w f B = B := by unfold noteB; rw [if_neg hh]
    rw [e] at hK
    exact aRet_of (Sub.refl _) (hK _ _ _ s.b s.u)
  rw [kBin_lss]
  refine kSplit_d (fun hh => no (by omega) _ _ s) (fun hw0 => ldH s.hb (rWds_spec fun _ _ hs => ?_))
  have s := s.rsub hs
  rw [kBin_geq]
  by_cases hG : GoodH h
  · have ew : wordsH h = 8 * h.hl := by unfold wordsH; rw [if_pos hG]
    rw [ew]
    refine kSplit_d (fun hh => no (by omega) _ _ s) (fun hw1 => ldH s.hb (rRoom_spec fun _ _ hs => ?_))
    have s := s.rsub hs
    have e : noteB h w f B = _ := if_pos (show GoodH h ∧ 0 ≤ w ∧ w < 8 * h.hl from ⟨hG, by omega, by omega⟩)
    rw [e] at hK
    have hr := roomH_le h
    rw [kConv_i, wU (by omega) (by omega)]
    refine qLi fun _ _ hs => ?_
    have s := s.rsub hs
    refine qLit1 s (by simp [liI]) (by omega) fun _ _ _ _ _ _ s => ?_
    refine qOp fun _ _ hs => ?_
    have s := s.rsub hs
    refine qJump s (by omega) fun _ _ _ _ s => ?_
    refine ldH s.hb (rEnt_spec s.b s.bk (by omega) fun _ _ _ _ hb' u' hk' => ?_)
    have s := s.move hb' u' hk'
    refine ldH s.hb (rWord_spec fun _ _ hs => ?_)
    have s := s.rsub hs
    refine qLi fun _ _ hs => ?_
    have s := s.rsub hs
    refine qMem fun _ _ hs => ?_
    have s := s.rsub hs
    refine qMem fun _ _ hs => ?_
    have s := s.rsub hs
    refine qMem fun _ _ hs => ?_
    have s := s.rsub hs
    refine qMem fun _ _ hs => ?_
    have s := s.rsub hs
    refine qOp fun _ _ hs => ?_
    have s := s.rsub hs
    refine qLit6 s (by simp [liI]) (by omega) fun _ _ _ _ _ _ s => ?_
    refine qLi fun _ _ hs => ?_
    have s := s.rsub hs
    refine qOp fun _ _ hs => ?_
    have s := s.rsub hs
    refine qLit2 s (by simp [liI]) (by omega) fun _ _ _ _ _ _ s => ?_
    refine ldH s.hb (rCountF_spec s.b s.bk (by omega) fun _ _ _ _ hb' u' => ?_)
    simp only [Bd.add_add, List.cons_append, List.nil_append] at hb'
    refine aRet_of (Sub.refl _) (hK _ _ _ ?_ (s.u.trans u'))
    simp only [Bd.add_add, List.cons_append, List.nil_append]
    exact hb'
  · exact kSplit_t (by unfold wordsH; rw [if_neg hG]; simp; omega) (no (fun hh => hG hh.1) _ _ s)
theorem Back_spec {K : Cont} (hB : BdH g fp lb B) (hk : Bk k m B) (hk2 : k + 19 ≤ 1000000) (hm2 : m + 2 ≤ 1000000) (hK : ∀ g' n' fp', BdH g' fp' lb (backB h B) → Upd fp fp' g g' → Bk (k + 19) (m + 2) (backB h B) → K (.tuple #[]) g' n') : AC undo_Back_id [ptr lb 0, .agg (encH h).toArray] g n K := by
  refine ACalls.fold X0_mono ?_
  rw [← undo_Back_eq]
  simp only [undo_Back, kAgg_a, kBin_p_eql]
  intro hn
  have s := St.init (h := h) hB hn hk
  generalize upd g n (some (.cells (encH h) .exact)) = g1 at s
  refine kSplit_f rfl (ldH s.hb (GoodH_spec fun _ _ hs => ?_))
  have s := s.sub hs
  rw [kUn_not]
  by_cases hG : GoodH h
  · refine kSplit_f (by simp [hG]) ?_
    have e : backB h B = _ := if_pos hG
    rw [e] at hK
    refine pMark s (by omega) fun _ _ _ s => pMark s (by omega) fun _ _ _ s => pHere s fun _ _ _ _ s => ?_
    refine pLi fun _ _ hs => ?_
    have s := s.sub hs
    refine pLit1 s (by simp [liI]) (by omega) fun _ _ _ _ _ _ s => ?_
    refine fillI ⟨18, 7, 0, 0, 0⟩ _ rfl rfl rfl (pJump s (by omega) fun _ _ _ _ s => ?_)
    refine pLi fun _ _ hs => ?_
    have s := s.sub hs
    refine pTh fun _ _ hs => ?_
    have s := s.sub hs
    refine pLit2 s (by simp [liI]) (by omega) fun _ _ _ _ _ _ s => ?_
    refine ldH s.hb (entry_spec fun _ _ _ hs hx => ?_)
    have s := s.sub hs
    have he : (entryL h).length = 4 := rfl
    refine pAdd s hx (by omega) (by simp [entryL, liI]) (by omega) fun _ _ _ _ s => ?_
    refine pLd fun _ _ hs => ?_
    have s := s.sub hs
    refine pLd fun _ _ hs => ?_
    have s := s.sub hs
    refine pSt fun _ _ hs => ?_
    have s := s.sub hs
    refine pCl fun _ _ hs => ?_
    have s := s.sub hs
    refine pLit4 s (by simp [liI]) (by omega) fun _ _ _ _ _ _ s => ?_
    refine fillOp 17 (pJump s (by omega) fun _ _ _ _ s => pHere s fun _ _ _ _ s => ?_)
    refine ldH s.hb (nought_spec fun _ _ _ hs hx => ?_)
    have s := s.sub hs
    have hn6 : (noughtL h).length = 6 := rfl
    refine pAdd s hx (by omega) (by simp [noughtL, liI]) (by omega) fun _ _ _ _ s => ?_
    exact aRet_of (Sub.refl _) (hK _ _ _ s.b s.u (s.bk.up (by omega) (by omega)))
  · have e : backB h B = B := if_neg hG
    rw [e] at hK
    exact kSplit_t (by simp [hG]) (aRet_of (Sub.refl _) (hK _ _ _ s.b s.u (s.bk.up (by omega) (by omega))))
theorem rBack_spec {K : Cont} (hB : RbH g fp lb B) (hk : Bk k m B) (hk2 : k + 19 ≤ 1000000) (hm2 : m + 2 ≤ 1000000) (hK : ∀ g' n' fp', RbH g' fp' lb (backB h B) → Upd fp fp' g g' → K (.tuple #[]) g' n') : AC bellowsref24_Back_id [ptr lb 0, .agg (encH h).toArray] g n K := by
  refine ACalls.fold X0_mono ?_
  rw [← bellowsref24_Back_eq]
  simp only [bellowsref24_Back, kAgg_a]
  intro hn
  have s := St.rinit (h := h) hB hn hk
  generalize upd g n (some (.cells (encH h) .exact)) = g1 at s
  refine ldH s.hb (rGoodH_spec fun _ _ hs => ?_)
  have s := s.rsub hs
  rw [kUn_not]
  by_cases hG : GoodH h
  · refine kSplit_f (by simp [hG]) ?_
    have e : backB h B = _ := if_pos hG
    rw [e] at hK
    refine qMark s (by omega) fun _ _ _ s => qMark s (by omega) fun _ _ _ s => qHere s fun _ _ _ _ s => ?_
    refine qLi fun _ _ hs => ?_
    have s := s.rsub hs
    refine qLit1 s (by simp [liI]) (by omega) fun _ _ _ _ _ _ s => ?_
    refine qOp fun _ _ hs => ?_
    have s := s.rsub hs
    refine qJump s (by omega) fun _ _ _ _ s => ?_
    refine qLi fun _ _ hs => ?_
    have s := s.rsub hs
    refine qOp fun _ _ hs => ?_
    have s := s.rsub hs
    refine qLit2 s (by simp [liI]) (by omega) fun _ _ _ _ _ _ s => ?_
    refine ldH s.hb (rEnt_spec s.b s.bk (by omega) fun _ _ _ _ hb' u' hk' => ?_)
    have s := s.move hb' u' hk'
    refine qMem fun _ _ hs => ?_
    have s := s.rsub hs
    refine qMem fun _ _ hs => ?_
    have s := s.rsub hs
    refine qMem fun _ _ hs => ?_
    have s := s.rsub hs
    refine qMem fun _ _ hs => ?_
    have s := s.rsub hs
    refine qLit4 s (by simp [liI]) (by omega) fun _ _ _ _ _ _ s => ?_
    refine fillOp 17 (qJump s (by omega) fun _ _ _ _ s => qHere s fun _ _ _ _ s => ?_)
    refine qOp fun _ _ hs => ?_
    have s := s.rsub hs
    refine qLit1 s (by simp [liI]) (by omega) fun _ _ _ _ _ _ s => ?_
    refine ldH s.hb (rCountT_spec s.b s.bk (by omega) fun _ _ _ _ hb' u' => ?_)
    rw [Bd.add_add] at hb'
    exact aRet_of (Sub.refl _) (hK _ _ _ hb' (s.u.trans u'))
  · have e : backB h B = B := if_neg hG
    rw [e] at hK
    exact kSplit_t (by simp [hG]) (aRet_of (Sub.refl _) (hK _ _ _ s.b s.u))
/-! ## Recover -/
def recB (h : Hp) : Bd := (backB h (B0.add [liI 6 (countH h), ⟨8, 7, 6, 0, 0⟩])).add [⟨22, 0, 0, 0, 0⟩]
def recD (h : Hp) : List Int × Int := if GoodH h then (recB h).done else ([], 1)
theorem words_all : ∀ (l : List Ins), (∀ i ∈ l, goodI i = true) → (words l).2 = true
  | [], _ => rfl
  | i :: r, H => by
    unfold words
    rw [if_pos (H i (by simp))]
    exact words_all r fun j hj => H j (by simp [hj])
theorem goodI_li {r x : Int} (hr : 0 ≤ r ∧ r ≤ 7) (h0 : 0 ≤ x) (h1 : x < 1000000) : goodI (liI r x) = true := by
  have e : IntKind.i64.wrap x = x := wrap64_of (by omega) (by omega)
  have e1 : hasL 1 65 = true := by decide
  have e2 : hasL 1 66 = false := by decide
  have e3 : hasL 1 67 = false := by decide
  have e4 : hasL 1 73 = true := by decide
  simp only [goodI, liI, e, e1, e2, e3, e4, regOk, immOk]
  simp
  omega
theorem addrA_le (a b : Int) : 0 ≤ addrA a b ∧ addrA a b < 1000000 := by unfold addrA; split <;> omega
theorem countH_le (h : Hp) : 0 ≤ countH h ∧ countH h < 1000000 := by unfold countH; split; exact addrA_le _ _; omega
theorem entryH_le (h : Hp) : 0 ≤ entryH h ∧ entryH h < 1000000 := by unfold entryH; split; exact addrA_le _ _; omega
theorem rec_items (hG : GoodH h) : (recB h).bad = false ∧ (recB h).marks = [2, 15] ∧ (recB h).items = [(liI 6 (countH h), -1), (⟨8, 7, 6, 0, 0⟩, -1), (liI 0 0, -1), (⟨18, 7, 0, 0, 0⟩, 1), (liI 0 1, -1), (⟨3, 7, 7, 0, 0⟩, -1), (liI 0 4, -1), (⟨6, 6, 7, 0, 0⟩, -1), (liI 0 (entryH h), -1), (⟨2, 6, 6, 0, 0⟩, -1), (⟨8, 1, 6, 0, 0⟩, -1), (⟨8, 4, 6, 0, 8⟩, -1), (⟨9, 4, 1, 0, 0⟩, -1), (⟨12, 0, 1, 0, 0⟩, -1), (⟨17, 0, 0, 0, 0⟩, 0), (⟨15, 0, 0, 0, 0⟩, -1), (liI 6 (countH h), -1), (liI 0 0, -1), (⟨9, 0, 6, 0, 0⟩, -1), (⟨12, 0, 6, 0, 0⟩, -1), (⟨15, 0, 0, 0, 0⟩, -1), (⟨22, 0, 0, 0, 0⟩, -1)] := by
  unfold recB backB
  rw [if_pos hG]
  exact ⟨rfl, rfl, rfl⟩
theorem rec_ok (hG : GoodH h) : (recB h).done.2 = 0 := by
  obtain ⟨h1, h2, h3⟩ := rec_items hG
  have hc := countH_le h
  have he := entryH_le h
  have hw : (words ((recB h).items.map (recB h).fix)).2 = true := by
    apply words_all
    rw [h3]
    simp only [List.map_cons, List.map_nil, List.mem_cons, List.not_mem_nil, or_false, Bd.fix, h2]
    intro i hi
    rcases hi with hi | hi | hi | hi | hi | hi | hi | hi | hi | hi | hi | hi | hi | hi | hi | hi | hi | hi | hi | hi | hi | hi <;> subst hi <;> first | exact goodI_li (by omega) (by omega) (by omega) | decide
  unfold Bd.done
  rw [if_neg (by rw [h1]; decide), if_neg (by rw [h3, h2]; exact Bool.false_ne_true), if_neg (by rw [hw]; decide), if_neg (by rw [h3]; exact (show ¬ (4096 < 22) by decide))]
theorem recD_snd (h : Hp) (hG : GoodH h) : (recD h).2 = 0 := by unfold recD; rw [if_pos hG]; exact rec_ok hG
theorem Bd.done_len (hG : GoodH h) : (recB h).done.1.length = 22 := by
  obtain ⟨h1, h2, h3⟩ := rec_items hG
  have h5 := rec_ok hG
  unfold Bd.done at h5 ⊢
  rw [if_neg (by rw [h1]; decide), if_neg (by rw [h3, h2]; exact Bool.false_ne_true)] at h5 ⊢
  split at h5
  · cases h5
  · rename_i hw
    rw [if_neg hw, if_neg (by rw [h3]; exact (show ¬ (4096 < 22) by decide))]
    show (words ((recB h).items.map (recB h).fix)).1.length = 22
    rw [words_len _ (by simpa using hw), List.length_map, h3]; rfl
theorem backB_bk (hk : Bk k m B) (hk2 : k + 19 ≤ 1000000) : Bk (k + 19) (m + 2) (backB h B) := by
  unfold backB
  split
  · have a1 := ((hk.mark.mark.here B.marks.length).add (ys := [liI 0 0]) (by simp [liI]) (by simp; omega)).jump ⟨18, 7, 0, 0, 0⟩ B.mark.marks.length (by simp; omega)
    have a2 := (a1.add (ys := [liI 0 1, ⟨3, 7, 7, 0, 0⟩]) (by simp [liI]) (by simp; omega)).add (ys := entryL h) (by simp [entryL, liI]) (by simp [entryL]; omega)
    have a3 := ((a2.add (ys := [⟨8, 1, 6, 0, 0⟩, ⟨8, 4, 6, 0, 8⟩, ⟨9, 4, 1, 0, 0⟩, ⟨12, 0, 1, 0, 0⟩]) (by simp) (by simp [entryL]; omega)).jump ⟨17, 0, 0, 0, 0⟩ B.marks.length (by simp [entryL]; omega)).here B.mark.marks.length
    exact a3.add (ys := noughtL h) (by simp [noughtL, liI]) (by simp [noughtL, entryL]; omega)
  · exact hk.up (by omega) (by omega)
end Go.Proofs.YtecojalpbppfeaaGreat.Gen

namespace Go.Proofs.YtecojalpbppfeaaGreat.Gen
open Go Go.Proofs.YtecojalpbppfeaaGreat.Abs Go.RowKit
/-! ## lines in which words lie -/
def keyH (h : Hp) (w : Int) : Int := 64 * (h.vol + 1 + h.log + w / 8)
def keysW (h : Hp) (ws : List Int) : List Int := (ws.filter fun w => decide (0 ≤ w ∧ w < 8 * h.hl)).map (keyH h)
def lineL (h : Hp) (ws : List Int) : List Int := ((List.range h.hl.toNat).filter fun l : Nat => decide (∃ w ∈ ws, 8 * (l : Int) ≤ w ∧ w < 8 * (l : Int) + 8)).map fun l : Nat => 64 * (h.vol + 1 + h.log + (l : Int))
def clL (ks : List Int) : List Ins := ks.flatMap fun a => [liI 1 a, ⟨12, 0, 1, 0, 0⟩]
def commitB (h : Hp) (ws : List Int) (B : Bd) : Bd := if GoodH h then (B.add (clL (lineL h ws))).add (noughtL h) else B
theorem mem_lineL {h : Hp} {ws : List Int} {a : Int} : a ∈ lineL h ws ↔ a ∈ keysW h ws := by
  simp only [lineL, keysW, List.mem_map, List.mem_filter, List.mem_range, decide_eq_true_eq, keyH]
  constructor
  · rintro ⟨l, ⟨hl, w, hw, h1, h2⟩, rfl⟩
    exact ⟨w, ⟨hw, by omega, by omega⟩, by rw [show w / 8 = (l : Int) by omega]⟩
  · rintro ⟨w, ⟨hw, h1, h2⟩, rfl⟩
    refine ⟨(w / 8).toNat, ⟨by omega, w, hw, by omega, by omega⟩, ?_⟩
    rw [show (((w / 8).toNat : Nat) : Int) = w / 8 by omega]
theorem lineL_srt (h : Hp) (ws : List Int) : (lineL h ws).Pairwise (· < ·) := by
  unfold lineL
  rw [List.pairwise_map]
  refine List.Pairwise.imp (R := fun a b : Nat => a < b) (by intro a b hab; omega) ?_
  exact List.Pairwise.filter _ List.pairwise_lt_range
theorem lineL_len (h : Hp) (hG : GoodH h) (ws : List Int) : (lineL h ws).length ≤ 16 := by
  unfold lineL
  rw [List.length_map]
  refine Nat.le_trans (List.length_filter_le _ _) ?_
  rw [List.length_range]
  obtain ⟨_, _, _, _, h10, _⟩ := hG
  omega
theorem srt_eq : ∀ (a b : List Int), a.Pairwise (· < ·) → b.Pairwise (· < ·) → (∀ x, x ∈ a ↔ x ∈ b) → a = b
  | [], [], _, _, _ => rfl
  | [], y :: s, _, _, h => absurd ((h y).2 (by simp)) (by simp)
  | x :: r, [], _, _, h => absurd ((h x).1 (by simp)) (by simp)
  | x :: r, y :: s, ha, hb, h => by
    rw [List.pairwise_cons] at ha hb
    have e : x = y := by
      have h1 := (h x).1 (by simp)
      have h2 := (h y).2 (by simp)
      rcases List.mem_cons.1 h1 with h1 | h1
      · exact h1
      · rcases List.mem_cons.1 h2 with h2 | h2
        · exact h2.symm
        · have := hb.1 x h1; have := ha.1 y h2; omega
    subst e
    rw [srt_eq r s ha.2 hb.2 fun z => ?_]
    constructor
    · intro hz
      rcases List.mem_cons.1 ((h z).1 (by simp [hz])) with e | e
      · have := ha.1 z hz; omega
      · exact e
    · intro hz
      rcases List.mem_cons.1 ((h z).2 (by simp [hz])) with e | e
      · have := hb.1 z hz; omega
      · exact e
theorem srt_pw {ys : List Int} (hs : SrtW 0 ys.length ys) (hn : ys.Nodup) : ys.Pairwise (· < ·) := by
  rw [List.pairwise_iff_getElem]
  intro i j hi hj hij
  have h1 := hs i j (Nat.zero_le _) (by omega) hj
  simp only [List.getD_eq_getElem?_getD, List.getElem?_eq_getElem hi, List.getElem?_eq_getElem hj, Option.getD_some] at h1
  have h2 : ys[i] ≠ ys[j] := fun e => by
    have := (List.nodup_iff_pairwise_ne.1 hn)
    rw [List.pairwise_iff_getElem] at this
    exact this i j hi hj hij e
  omega
theorem nodup_len {α : Type} [BEq α] [LawfulBEq α] : ∀ (l m : List α), l.Nodup → (∀ x ∈ l, x ∈ m) → l.length ≤ m.length
  | [], m, _, _ => by simp
  | a :: r, m, hn, hs => by
    rw [List.nodup_cons] at hn
    have ha := hs a (by simp)
    have ih := nodup_len r (m.erase a) hn.2 fun x hx => by
      rw [List.mem_erase_of_ne (fun e : x = a => hn.1 (e ▸ hx))]
      exact hs x (by simp [hx])
    rw [List.length_erase_of_mem ha] at ih
    have := List.length_pos_of_mem ha
    simp only [List.length_cons]; omega
/-- what is collected and sorted is the list of the lines -/
theorem sorted_is {h : Hp} {ws out ys : List Int} (hn : out.Nodup) (hm : ∀ a, a ∈ out ↔ a ∈ keysW h ws) (hp : ys.Perm out) (hs : SrtW 0 ys.length ys) : ys = lineL h ws := by
  refine srt_eq _ _ (srt_pw hs ((hp.nodup_iff).2 hn)) (lineL_srt h ws) fun x => ?_
  rw [hp.mem_iff, hm, mem_lineL]
/-! ## maps -/
section
variable {α : Type}
theorem mput_fst (ms : List (Int × α)) (a : Int) (x : α) (b : Int) : b ∈ (mput ms a x).map Prod.fst ↔ b = a ∨ b ∈ ms.map Prod.fst := by
  induction ms with
  | nil => simp [mput]
  | cons p r ih =>
    simp only [mput]
    split
    · rename_i e; simp only [List.map_cons, List.mem_cons]; rw [e]
      constructor
      · rintro (h | h); exact .inl h; exact .inr (.inr h)
      · rintro (h | h | h); exact .inl h; exact .inl h; exact .inr h
    · simp only [List.map_cons, List.mem_cons, ih]
      constructor
      · rintro (h | h | h); exact .inr (.inl h); exact .inl h; exact .inr (.inr h)
      · rintro (h | h | h); exact .inr (.inl h); exact .inl h; exact .inr (.inr h)
theorem mput_nd (ms : List (Int × α)) (a : Int) (x : α) (h : (ms.map Prod.fst).Nodup) : ((mput ms a x).map Prod.fst).Nodup := by
  induction ms with
  | nil => simp [mput]
  | cons p r ih =>
    simp only [List.map_cons, List.nodup_cons] at h
    simp only [mput]
    split
    · rename_i e; simp only [List.map_cons, List.nodup_cons]; rw [e]; exact h
    · rename_i e
      simp only [List.map_cons, List.nodup_cons]
      refine ⟨fun hm => ?_, ih h.2⟩
      rcases (mput_fst r a x p.1).1 hm with h1 | h1
      · exact e h1.symm
      · exact h.1 h1
end
theorem kIter_o {g : G} {p l : Nat} {es : List (Value × Value)} {seen : List Nat} {K : Nat → Nat → List (Value × Value) → List Nat → Prop} (h1 : g p = some (.iter l es.length seen)) (h2 : g l = some (.map es)) (k : K p l es seen) : kIter (ptr p 0) g K := by
  show (match g p with | some (.iter l cnt seen) => kMap g l fun es => es.length = cnt ∧ K p l es seen | _ => False)
  rw [h1]
  show kMap g l _
  unfold kMap; rw [h2]
  exact ⟨rfl, k⟩
def evJ (i : Int) : Value := .int .i64 i
theorem clL_take {ys : List Int} {j : Nat} {a : Int} (h : ys[j]? = some a) : clL (ys.take (j + 1)) = clL (ys.take j) ++ [liI 1 a, ⟨12, 0, 1, 0, 0⟩] := by
  rw [List.take_add_one, h]; simp [clL]
theorem clL_len (ks : List Int) : (clL ks).length = 2 * ks.length := by
  induction ks with
  | nil => rfl
  | cons a r ih => simp only [clL, List.flatMap_cons, List.length_append, List.length_cons, List.length_nil] at *; omega
theorem clL_ops (ks : List Int) : ∀ i ∈ clL ks, 0 ≤ i.op ∧ i.op ≤ 22 := by
  intro i hi
  simp only [clL, List.mem_flatMap, List.mem_cons, List.not_mem_nil, or_false] at hi
  obtain ⟨a, _, rfl | rfl⟩ := hi <;> simp [liI]
theorem Bd.add_nil (B : Bd) : B.add [] = B := by simp [Bd.add]
theorem keysW_take {h : Hp} {ws : List Int} {j : Nat} {w : Int} (hw : ws[j]? = some w) : keysW h (ws.take (j + 1)) = keysW h (ws.take j) ++ (if 0 ≤ w ∧ w < 8 * h.hl then [keyH h w] else []) := by
  rw [List.take_add_one, hw]
  simp only [keysW, List.filter_append, List.map_append, Option.toList_some, List.filter_cons, List.filter_nil]
  split <;> rename_i h1 <;> simp at h1
  · rw [if_pos h1]; rfl
  · rw [if_neg (by omega)]; rfl
end Go.Proofs.YtecojalpbppfeaaGreat.Gen

namespace Go.Proofs.YtecojalpbppfeaaGreat.Gen
open Go Go.Proofs.YtecojalpbppfeaaGreat.Abs Go.RowKit
variable {g : G} {n : Nat}
variable {fp : List Nat} {lb k m : Nat} {h : Hp} {B : Bd} {w f : Int}
theorem word_key (hG : GoodH h) (h0 : 0 ≤ w) (h1 : w < 8 * h.hl) : IntKind.u64.wrap (IntKind.u64.wrap ((wordH h w).tdiv 64) * 64) = keyH h w := by
  obtain ⟨⟨_, _, _, h4, h5, h6, _⟩, h7, h8, h9, h10, h11⟩ := id hG
  unfold wordH keyH addrA
  rw [if_pos ⟨hG, h0, h1⟩, if_pos (by omega), Int.tdiv_eq_ediv_of_nonneg (by omega), show (64 * (h.vol + 1 + h.log + w / 8) + 8 * (w % 8)) / 64 = h.vol + 1 + h.log + w / 8 by omega, @wU (h.vol + 1 + h.log + w / 8) (by omega) (by omega), wU (by omega) (by omega)]
  omega
theorem rangeStep {α : Type} {ms : List (Int × α)} {i : Nat} {kv : Value × Value} {ev : α → Value} {kk : IntKind} (h : (MpE ev kk ms)[i]? = some kv) : ∃ a x, ms[i]? = some (a, x) ∧ kv = (.int kk a, ev x) := by
  simp only [MpE, List.getElem?_map] at h
  cases hq : ms[i]? with
  | none => rw [hq] at h; cases h
  | some p => rw [hq] at h; simp at h; exact ⟨p.1, p.2, rfl, h.symm⟩
theorem nodup_sel {ks : List Int} {seen : List Nat} (hk : ks.Nodup) (hs : seen.Nodup) (hlt : ∀ i ∈ seen, i < ks.length) : (seen.map fun i => ks.getD i 0).Nodup := by
  rw [List.nodup_iff_pairwise_ne, List.pairwise_map]
  rw [List.nodup_iff_pairwise_ne] at hs
  refine hs.imp_of_mem fun {a b} ha hb hab e => hab ?_
  have h1 := hlt a ha
  have h2 := hlt b hb
  simp only [List.getD_eq_getElem?_getD, List.getElem?_eq_getElem h1, List.getElem?_eq_getElem h2, Option.getD_some] at e
  rw [List.nodup_iff_pairwise_ne, List.pairwise_iff_getElem] at hk
  rcases Nat.lt_trichotomy a b with h | h | h
  · exact absurd e (hk a b h1 h2 h)
  · exact h
  · exact absurd e.symm (hk b a h2 h1 h)
theorem mem_sel {ks : List Int} {seen : List Nat} (hlt : ∀ i ∈ seen, i < ks.length) (hall : ∀ i, i < ks.length → i ∈ seen) (a : Int) : a ∈ (seen.map fun i => ks.getD i 0) ↔ a ∈ ks := by
  simp only [List.mem_map]
  constructor
  · rintro ⟨i, hi, rfl⟩
    have h1 := hlt i hi
    simp only [List.getD_eq_getElem?_getD, List.getElem?_eq_getElem h1, Option.getD_some]
    exact List.getElem_mem h1
  · intro ha
    obtain ⟨i, hi, rfl⟩ := List.mem_iff_getElem.1 ha
    exact ⟨i, hall i hi, by simp only [List.getD_eq_getElem?_getD, List.getElem?_eq_getElem hi, Option.getD_some]⟩
theorem St.base {H : G → List Nat → Nat → Bd → Prop} {g0 : G} {fp0 : List Nat} {l5 : Nat} (s : St H g0 fp0 lb l5 h g fp B k m) : St H g fp lb l5 h g fp B k m := ⟨s.b, Upd.refl _ _, s.hb, s.hn, s.bk⟩
theorem Commit_l5 {g0 : G} {fp0 : List Nat} {l5 : Nat} {x : Value} {ys ws : List Int} {t : Env} {K : Cont} (s : St BdH g0 fp0 lb l5 h g fp B k m) (hx : OwnS encW 1 none0 g x ys) (hf : ys ≠ [] → ∀ l ∈ blks x, l ∉ fp) (h16 : ys.length ≤ 16) (hk2 : k + 38 ≤ 1000000) (ey : ys = lineL h ws)
    (hK : ∀ g' n' fp', BdH g' fp' lb ((B.add (clL (lineL h ws))).add (noughtL h)) → Upd fp0 fp' g0 g' → Bk (k + 38) m ((B.add (clL (lineL h ws))).add (noughtL h)) → K (.tuple #[]) g' n')
    (t0 : t 0 = ptr lb 0) (t4 : t 4 = ptr l5 0) (t56 : t 56 = x) (t57 : t 57 = .int .i64 (ys.length : Nat)) (t58 : t 58 = .int .i64 0) : lfp (undo_Commit_l5 AC K) t g n := by
  refine lfp_ind (m := ys.length) (Inv := fun mm t g5 n5 => ∃ (j : Nat) (fp5 : List Nat), mm + j = ys.length ∧ t 0 = ptr lb 0 ∧ t 4 = ptr l5 0 ∧ t 56 = x ∧ t 57 = .int .i64 (ys.length : Nat) ∧ t 58 = .int .i64 (j : Nat) ∧
    St BdH g0 fp0 lb l5 h g5 fp5 (B.add (clL (ys.take j))) (k + 2 * j) m ∧ OwnS encW 1 none0 g5 x ys ∧ (ys ≠ [] → ∀ l ∈ blks x, l ∉ fp5)) ?_ ⟨0, fp, by simp, t0, t4, t56, t57, t58, by simpa [clL, Bd.add_nil] using s, hx, hf⟩
  rintro I mm t g5 n5 ih ⟨j, fp5, hm, t0, t4, t56, t57, t58, s, hx, hf⟩
  simp only [undo_Commit_l5, t0, t4, t56, t57, t58, kBin_lss]
  refine kSplit_d (fun hj => ?_) (fun hj => ?_)
  · have hj : j < ys.length := by omega
    have hne : ys ≠ [] := fun e => by rw [e] at hj; simp at hj
    have hget := List.getElem?_eq_getElem hj
    generalize ys[j] = a at hget
    have hct := clL_take hget
    refine hx.sl.idx encW_len hget (fun l o ha => ?_)
    simp only [kPtr_p]
    refine ha.ld (i := 0) rfl (pLi fun g6 n6 s6 => pCl fun g7 n7 s7 => ?_)
    have hs := s6.trans s7
    have sb := (s.sub hs).base
    refine pLit2 sb (by simp [liI]) (by omega) fun _ _ _ g8 n8 fp8 s8 => ?_
    rw [kBin_add, wrapNat (by omega)]
    refine ih (mm - 1) _ _ _ (by omega) ⟨j + 1, fp8, by omega, t0, t4, t56, t57, rfl, ?_, ?_, fun _ l hl hm8 => ?_⟩
    · rw [hct, ← Bd.add_add]
      exact ⟨s8.b, (s.sub hs).u.trans s8.u, s8.hb, s8.hn, s8.bk.up (by omega) (Nat.le_refl _)⟩
    · exact (hx.mono hs).keepB fun l b h1 h2 => s8.u.1 l b h1 (hf hne l h2)
    · rcases s8.u.2 l hm8 with h1 | h1
      · exact hf hne l hl h1
      · obtain ⟨b, hb⟩ := hx.there l hl (by omega)
        rw [hs.live hb] at h1; cases h1
  · have hje : ys.take j = ys := List.take_of_length_le (by omega)
    rw [hje, ey] at s
    simp only [undo_Commit_j6]
    show kPtr (t 4) _
    rw [t4]
    simp only [kPtr_p]
    refine ldH s.hb (nought_spec fun _ _ _ hs hx => ?_)
    have s := s.sub hs
    have hn6 : (noughtL h).length = 6 := rfl
    show AC emit_Builder_Add_id [t 0, _] _ _ _
    rw [t0]
    refine pAdd s hx (by omega) (by simp [noughtL, liI]) (by omega) fun _ _ _ _ s => ?_
    exact aRet_of (Sub.refl _) (hK _ _ _ s.b s.u (s.bk.up (by omega) (Nat.le_refl _)))
theorem Commit_l3 {g0 : G} {fp0 : List Nat} {l5 n2 n4 : Nat} {ws : List Int} {ms : List (Int × Int)} {t : Env} {K : Cont} (hG : GoodH h) (s : St BdH g0 fp0 lb l5 h g fp B k m) (hk2 : k + 38 ≤ 1000000)
    (hmp : g n2 = some (.map (MpE evJ .u64 ms))) (hnd : (ms.map Prod.fst).Nodup) (hmem : ∀ a, a ∈ ms.map Prod.fst ↔ a ∈ keysW h ws) (hn4 : g n4 = none)
    (hK : ∀ g' n' fp', BdH g' fp' lb ((B.add (clL (lineL h ws))).add (noughtL h)) → Upd fp0 fp' g0 g' → Bk (k + 38) m ((B.add (clL (lineL h ws))).add (noughtL h)) → K (.tuple #[]) g' n')
    (t0 : t 0 = ptr lb 0) (t4 : t 4 = ptr l5 0) (t9 : t 9 = .slice none 0 0) (t45 : t 45 = ptr n4 0) {n5 : Nat} : lfp (undo_Commit_l3 AC K) t (upd g n4 (some (.iter n2 (MpE evJ .u64 ms).length []))) n5 := by
  have hel : (MpE evJ .u64 ms).length = ms.length := by simp [MpE]
  have hkl : (ms.map Prod.fst).length = ms.length := by simp
  refine lfp_ind (m := ms.length) (Inv := fun mm e g9 n9 => ∃ (seen : List Nat) (out : List Int) (x : Value), mm + seen.length = ms.length ∧ e 0 = ptr lb 0 ∧ e 4 = ptr l5 0 ∧ e 9 = x ∧ e 45 = ptr n4 0 ∧ Sub g g9 ∧ g9 n4 = some (.iter n2 (MpE evJ .u64 ms).length seen) ∧ OwnS encW 1 none0 g9 x out ∧
    (∀ l ∈ blks x, g l = none) ∧ n4 ∉ blks x ∧ seen.Nodup ∧ (∀ i ∈ seen, i < ms.length) ∧ out = seen.map (fun i => (ms.map Prod.fst).getD i 0)) ?_
    ⟨[], [], .slice none 0 0, by simp, t0, t4, t9, t45, (Sub.refl g).new hn4 _, upd_same _ _ _, OwnS.nil, by simp [blks, blkOf], by simp [blks, blkOf], by simp, by simp, rfl⟩
  rintro I mm e g9 n9 ih ⟨seen, out, x, hm, t0, t4, t9, t45, s9, hp9, o9, hfr, hnx, hsn, hlt, hout⟩
  simp only [undo_Commit_l3, t9, t45]
  have hm9 := s9.live hmp
  have hlt' : ∀ i ∈ seen, i < (ms.map Prod.fst).length := fun i hi => by rw [hkl]; exact hlt i hi
  refine kIter_o hp9 hm9 ⟨fun hall => ?_, fun i kv hi hkv => ?_⟩
  · refine kExt (vs := [.bool false]) rfl (kSplit_f rfl ?_)
    have hnd9 : out.Nodup := by rw [hout]; exact nodup_sel hnd hsn hlt'
    have hmm : ∀ a, a ∈ out ↔ a ∈ keysW h ws := fun a => by rw [hout, mem_sel hlt' (fun i hi => hall i (by rw [hel, ← hkl]; exact hi)), hmem]
    have h16 : out.length ≤ 16 := Nat.le_trans (nodup_len out (lineL h ws) hnd9 fun a ha => mem_lineL.2 ((hmm a).1 ha)) (lineL_len h hG ws)
    simp only [undo_Commit_j4]
    show AC slices_Sort_uint64_uint64_id [e 9] g9 n9 _
    rw [t9]
    refine Sort_spec o9 h16 fun ys g11 n11 hpm hsrt hfr11 o11 => ?_
    show kLen (e 9) _
    rw [t9]
    refine o11.sl.len ?_
    have s11 : Sub g g11 := fun l => by
      cases hq : g l with
      | none => exact .inl rfl
      | some b => exact .inr (hfr11 l b (fun hm => by rw [hfr l hm] at hq; cases hq) (s9.live hq)).symm
    refine Commit_l5 (s.sub s11) o11 (fun _ l hl hm => ?_) (by rw [hpm.length_eq]; exact h16) hk2 (sorted_is hnd9 hmm hpm hsrt) hK t0 t4 t9 rfl rfl
    obtain ⟨b, hb⟩ := s.b.live l hm
    rw [hfr l hl] at hb; cases hb
  · obtain ⟨a, y, hay, rfl⟩ := rangeStep hkv
    have hil : i < ms.length := (List.getElem?_eq_some_iff.1 hay).1
    have hpA : upd g9 n4 (some (.iter n2 (MpE evJ .u64 ms).length (seen ++ [i]))) n4 = some (.iter n2 (MpE evJ .u64 ms).length (seen ++ [i])) := upd_same _ _ _
    have sA : Sub g (upd g9 n4 (some (.iter n2 (MpE evJ .u64 ms).length (seen ++ [i])))) := s9.upd_fresh _ hn4
    have oA : OwnS encW 1 none0 (upd g9 n4 (some (.iter n2 (MpE evJ .u64 ms).length (seen ++ [i])))) x out := o9.keepB fun l b h1 h2 => by rw [upd_ne _ _ (fun e : l = n4 => hnx (e ▸ h2))]; exact h1
    generalize upd g9 n4 (some (.iter n2 (MpE evJ .u64 ms).length (seen ++ [i]))) = gA at hpA sA oA
    refine kExt (vs := [.bool true, .int .u64 a, evJ y]) rfl (kSplit_t rfl ?_)
    refine kIter_o hpA (sA.live hmp) ?_
    have el1 : (seen ++ [i]).getLast? = some i := by simp
    simp only [el1]
    show kAt (MpE evJ .u64 ms) i _
    unfold kAt
    rw [hkv]
    refine kExt (vs := [.int .u64 a, evJ y]) rfl ?_
    refine ⟨rfl, by simp [reps], fun hnA => ?_⟩
    have sB := (Sub.refl gA).new hnA (some (.cells (encW a) .exact))
    have hone : Sl encW 1 (upd gA n9 (some (.cells (encW a) .exact))) (.slice (some ⟨n9, 0, none⟩) 1 1) [a] := Sl.one rfl (upd_same _ _ _)
    have hnd' : (seen ++ [i]).Nodup := by
      rw [List.nodup_append]
      exact ⟨hsn, by simp, fun a ha b hb => by simp at hb; subst hb; exact fun e => hi (e ▸ ha)⟩
    have hltn : ∀ j ∈ seen ++ [i], j < ms.length := fun j hj => by
      rcases List.mem_append.1 hj with hj | hj
      · exact hlt j hj
      · simp at hj; subst hj; exact hil
    have hle : (seen ++ [i]).length ≤ (List.range ms.length).length := nodup_len _ _ hnd' fun j hj => List.mem_range.2 (hltn j hj)
    rw [List.length_range, List.length_append, List.length_singleton] at hle
    have holl : out.length = seen.length := by rw [hout, List.length_map]
    have hkk : (ms.map Prod.fst).getD i 0 = a := by simp [List.getD_eq_getElem?_getD, List.getElem?_map, hay]
    have hml : ms.length ≤ 16 := by
      have := nodup_len (ms.map Prod.fst) (lineL h ws) hnd fun a ha => mem_lineL.2 ((hmem a).1 ha)
      rw [hkl] at this
      exact Nat.le_trans this (lineL_len h hG ws)
    refine own_app (g := upd gA n9 (some (.cells (encW a) .exact))) (oA.mono sB) hone encW_cell (by decide) (by simp; omega) (by simp; omega) (by simp) fun x' g' n' ho hk hf => ?_
    refine ih (mm - 1) _ _ _ (by omega) ⟨seen ++ [i], out ++ [a], x', by rw [List.length_append, List.length_singleton]; omega, t0, t4, rfl, t45, fun l => ?_, hk _ _ (sB.live hpA) hnx, ho, fun l hl => sA.none (sB.none (hf l hl)), fun hm4 => ?_, hnd', hltn, by rw [List.map_append, ← hout]; simp only [List.map_cons, List.map_nil, hkk]⟩
    · cases hq : g l with
      | none => exact .inl rfl
      | some b => exact .inr (hk l b (sB.live (sA.live hq)) (fun hm => by rw [hfr l hm] at hq; cases hq)).symm
    · have := hf _ hm4
      rw [sB.live hpA] at this; cases this
theorem Commit_spec {v : Value} {ws : List Int} {K : Cont} (hB : BdH g fp lb B) (hk : Bk k m B) (hk2 : k + 38 ≤ 1000000) (hv : Sl enc1 1 g v ws) (hl : ws.length ≤ 1000000)
    (hK : ∀ g' n' fp', BdH g' fp' lb (commitB h ws B) → Upd fp fp' g g' → Bk (k + 38) m (commitB h ws B) → K (.tuple #[]) g' n') : AC undo_Commit_id [ptr lb 0, .agg (encH h).toArray, v] g n K := by
  refine ACalls.fold X0_mono ?_
  rw [← undo_Commit_eq]
  simp only [undo_Commit, kAgg_a, kBin_p_eql]
  intro hn
  have s := St.init (h := h) hB hn hk
  have sg := (Sub.refl g).new hn (some (.cells (encH h) .exact))
  generalize upd g n (some (.cells (encH h) .exact)) = g1 at s sg
  refine kSplit_f rfl (ldH s.hb (GoodH_spec fun g2 n2 hs => ?_))
  have s := s.sub hs
  have hv2 := hv.mono (sg.trans hs)
  rw [kUn_not]
  by_cases hG : GoodH h
  · have e : commitB h ws B = _ := if_pos hG
    rw [e] at hK
    have ew : wordsH h = 8 * h.hl := by unfold wordsH; rw [if_pos hG]
    refine kSplit_f (by simp [hG]) (fun hn2 => hv2.len ?_)
    refine lfp_ind (m := ws.length) (Inv := fun mm t g4 n4 => ∃ (j : Nat) (ms : List (Int × Int)), mm + j = ws.length ∧ t 0 = ptr lb 0 ∧ t 4 = ptr n 0 ∧ t 6 = .map (some n2) ∧ t 21 = v ∧ t 22 = .int .i64 (ws.length : Nat) ∧ t 23 = .int .i64 (j : Nat) ∧ Sub g2 g4 ∧ g4 n2 = some (.map (MpE evJ .u64 ms)) ∧ (ms.map Prod.fst).Nodup ∧ (∀ a, a ∈ ms.map Prod.fst ↔ a ∈ keysW h (ws.take j))) ?_ ⟨0, [], by simp, rfl, rfl, rfl, rfl, rfl, rfl, (Sub.refl g2).new hn2 _, upd_same _ _ _, by simp, by simp [keysW]⟩
    rintro I mm t g4 n4 ih ⟨j, ms, hm, t0, t4, t6, t21, t22, t23, s4, hmp, hnd, hmem⟩
    simp only [undo_Commit_l1, t4, t6, t21, t22, t23, kBin_lss, kPtr_p]
    have s := s.sub s4
    refine kSplit_d (fun hj => ?_) (fun hj => ?_)
    · have hj : j < ws.length := by omega
      have hget := List.getElem?_eq_getElem hj
      generalize ws[j] = w at hget
      have hkt := keysW_take (h := h) hget
      refine (hv2.mono s4).idx enc1_len hget (fun l o ha => ?_)
      simp only [kPtr_p]
      refine ha.ld (i := 0) rfl ?_
      have go : ∀ (t' : Env) (g' : G) (n' : Nat) (ms' : List (Int × Int)), t' 0 = ptr lb 0 → t' 4 = ptr n 0 → t' 6 = .map (some n2) → t' 21 = v → t' 22 = .int .i64 (ws.length : Nat) → t' 23 = .int .i64 ((j + 1 : Nat) : Int) → Sub g2 g' → g' n2 = some (.map (MpE evJ .u64 ms')) → (ms'.map Prod.fst).Nodup → (∀ a, a ∈ ms'.map Prod.fst ↔ a ∈ keysW h (ws.take (j + 1))) → I t' g' n' :=
        fun t' g' n' ms' q1 q2 q3 q4 q5 q6 q7 q8 q9 q10 => ih (mm - 1) _ _ _ (by omega) ⟨j + 1, ms', by omega, q1, q2, q3, q4, q5, q6, q7, q8, q9, q10⟩
      rw [kBin_geq]
      refine kSplit_d (fun h0 => ?_) (fun h0 => ?_)
      · refine ldH s.hb (Wds_spec fun g5 n5 s5 => ?_)
        have s := s.sub s5
        rw [kBin_lss, ew]
        refine kSplit_d (fun h1 => ?_) (fun h1 => ?_)
        · refine ldH s.hb (Word_spec fun g6 n6 s6 => ?_)
          rw [kBin_quo]
          refine ⟨by decide, ?_⟩
          rw [kBin_mul, word_key hG h0 h1]
          have hmp6 := (s5.trans s6).live hmp
          refine kLookup_m hmp6 ?_
          obtain ⟨y, hy⟩ : ∃ y, optV evJ (.int .i64 0) (mget ms (keyH h w)) = .int .i64 y := by
            cases mget ms (keyH h w) with
            | none => exact ⟨0, rfl⟩
            | some y => exact ⟨y, rfl⟩
          rw [hy, kBin_add]
          refine kMapSet_m (ev := evJ) (x := IntKind.i64.wrap (y + 1)) hmp6 ?_
          rw [kBin_add, wrapNat (by omega)]
          refine go _ _ _ _ t0 t4 t6 t21 t22 rfl ((s4.trans (s5.trans s6)).upd_fresh _ hn2) (upd_same _ _ _) (mput_nd _ _ _ hnd) fun a => ?_
          rw [mput_fst, hkt, if_pos ⟨h0, h1⟩, List.mem_append, hmem]
          simp; constructor
          · rintro (h | h); exact .inr h; exact .inl h
          · rintro (h | h); exact .inr h; exact .inl h
        · rw [kBin_add, wrapNat (by omega)]
          refine go _ _ _ ms t0 t4 t6 t21 t22 rfl (s4.trans s5) (s5.live hmp) hnd fun a => ?_
          rw [hkt, if_neg (fun hh => h1 hh.2), List.append_nil]; exact hmem a
      · rw [kBin_add, wrapNat (by omega)]
        refine go _ _ _ ms t0 t4 t6 t21 t22 rfl s4 hmp hnd fun a => ?_
        rw [hkt, if_neg (fun hh => h0 hh.1), List.append_nil]; exact hmem a
    · have hje : ws.take j = ws := List.take_of_length_le (by omega)
      rw [hje] at hmem
      simp only [undo_Commit_j2]
      show kRange (t 6) g4 n4 _
      rw [t6]
      show kMap g4 n2 _
      unfold kMap; rw [hmp]
      intro hn4
      refine Commit_l3 hG s hk2 hmp hnd hmem hn4 hK ?_ ?_ ?_ ?_
      · exact t0
      · exact t4
      · rfl
      · rfl
  · have e : commitB h ws B = B := if_neg hG
    rw [e] at hK
    exact kSplit_t (by simp [hG]) (aRet_of (Sub.refl _) (hK _ _ _ s.b s.u (s.bk.up (by omega) (Nat.le_refl _))))
end Go.Proofs.YtecojalpbppfeaaGreat.Gen

namespace Go.Proofs.YtecojalpbppfeaaGreat.Gen
open Go Go.Proofs.YtecojalpbppfeaaGreat.Abs Go.RowKit
variable {g : G} {n : Nat}
variable {fp : List Nat} {lb k m : Nat} {h : Hp} {B : Bd} {w f : Int}
/-! ## the document's Commit -/
def inL (l : Nat) (w : Int) : Prop := 8 * (l : Int) ≤ w ∧ w < 8 * (l : Int) + 8
instance (l : Nat) (w : Int) : Decidable (inL l w) := inferInstanceAs (Decidable (_ ∧ _))
def lineN (h : Hp) (ws : List Int) (N : Nat) : List Int := ((List.range N).filter fun l : Nat => decide (∃ w ∈ ws, inL l w)).map fun l : Nat => 64 * (h.vol + 1 + h.log + (l : Int))
theorem lineN_all (h : Hp) (ws : List Int) : lineN h ws h.hl.toNat = lineL h ws := rfl
theorem lineN_succ (h : Hp) (ws : List Int) (N : Nat) : lineN h ws (N + 1) = lineN h ws N ++ (if ∃ w ∈ ws, inL N w then [64 * (h.vol + 1 + h.log + (N : Int))] else []) := by
  unfold lineN
  rw [List.range_succ, List.filter_append, List.map_append]
  congr 1
  simp only [List.filter_cons, List.filter_nil, decide_eq_true_eq]
  split <;> rfl
theorem lineN_len (h : Hp) (ws : List Int) (N : Nat) : (lineN h ws N).length ≤ N := by
  unfold lineN
  rw [List.length_map]
  exact Nat.le_trans (List.length_filter_le _ _) (by rw [List.length_range]; exact Nat.le_refl _)
theorem any_take {ws : List Int} {j l : Nat} {w : Int} (hw : ws[j]? = some w) : (∃ x ∈ ws.take (j + 1), inL l x) ↔ ((∃ x ∈ ws.take j, inL l x) ∨ inL l w) := by
  rw [List.take_add_one, hw]
  simp only [Option.toList_some, List.mem_append, List.mem_singleton]
  constructor
  · rintro ⟨x, hx | rfl, h⟩
    · exact .inl ⟨x, hx, h⟩
    · exact .inr h
  · rintro (⟨x, hx, h⟩ | h)
    · exact ⟨x, .inl hx, h⟩
    · exact ⟨w, .inr rfl, h⟩
theorem rC_l2 {K : Cont} {I0 : ECont} {v : Value} {ws : List Int} {l : Nat} {v0 v4 : Value} {t : Env} (hv : Sl enc1 1 g v ws) (hl : ws.length ≤ 1000000) (hl16 : l ≤ 100)
    (hK : ∀ (t' : Env) (b : Bool), t' 0 = v0 → t' 2 = v → t' 4 = v4 → t' 6 = .int .i64 (l : Nat) → t' 7 = .bool b → (b = true ↔ ∃ w ∈ ws, inL l w) → bellowsref24_Commit_j3 AC K I0 t' g n)
    (t0 : t 0 = v0) (t2 : t 2 = v) (t4 : t 4 = v4) (t6 : t 6 = .int .i64 (l : Nat)) (t7 : t 7 = .bool false) (t8 : t 8 = .int .i64 0) : lfp (bellowsref24_Commit_l2 AC K I0) t g n := by
  refine lfp_ind (m := ws.length) (Inv := fun mm t g5 n5 => g5 = g ∧ n5 = n ∧ ∃ (j : Nat) (b : Bool), mm + j = ws.length ∧ t 0 = v0 ∧ t 2 = v ∧ t 4 = v4 ∧ t 6 = .int .i64 (l : Nat) ∧ t 7 = .bool b ∧ (b = true ↔ ∃ w ∈ ws.take j, inL l w) ∧ t 8 = .int .i64 (j : Nat)) ?_ ⟨rfl, rfl, 0, false, by simp, t0, t2, t4, t6, t7, by simp, t8⟩
  rintro I mm t g5 n5 ih ⟨rfl, rfl, j, b, hm, t0, t2, t4, t6, t7, hb, t8⟩
  simp only [bellowsref24_Commit_l2, t2, t6, t7, t8]
  refine hv.len ?_
  rw [kBin_lss]
  refine kSplit_d (fun hj => ?_) (fun hj => ?_)
  · have hj : j < ws.length := by omega
    have hget := List.getElem?_eq_getElem hj
    generalize ws[j] = w at hget
    have hat := any_take (l := l) hget
    have go : ∀ (t' : Env) (b' : Bool), t' 0 = v0 → t' 2 = v → t' 4 = v4 → t' 6 = .int .i64 (l : Nat) → t' 7 = .bool b' → (b' = true ↔ ∃ w ∈ ws.take (j + 1), inL l w) → t' 8 = .int .i64 ((j + 1 : Nat) : Int) → I t' g5 n5 :=
      fun t' b' q1 q2 q3 q4 q5 q6 q7 => ih (mm - 1) _ _ _ (by omega) ⟨rfl, rfl, j + 1, b', by omega, q1, q2, q3, q4, q5, q6, q7⟩
    refine kSplit_c (fun hp => ?_) (fun hp => ?_)
    · rw [kBin_add, wrapNat (by omega)]
      exact go _ true t0 t2 t4 t6 rfl ⟨fun _ => hat.2 (.inl (hb.1 hp)), fun _ => rfl⟩ rfl
    · have hp' : ¬ ∃ w ∈ ws.take j, inL l w := fun hh => by rw [hb.2 hh] at hp; cases hp
      refine hv.idx enc1_len hget (fun l1 o1 ha => ?_)
      simp only [kPtr_p]
      refine ha.ld (i := 0) rfl ?_
      rw [kBin_mul, wrap64_of (by omega) (by omega), kBin_geq]
      refine kSplit_d (fun h1 => ?_) (fun h1 => ?_)
      · refine hv.idx enc1_len hget (fun l2 o2 ha2 => ?_)
        simp only [kPtr_p]
        refine ha2.ld (i := 0) rfl ?_
        rw [kBin_mul, wrap64_of (by omega) (by omega), kBin_add, wrap64_of (by omega) (by omega), kBin_lss, kBin_add, wrapNat (by omega)]
        refine go _ (decide (w < 8 * (l : Int) + 8)) t0 t2 t4 t6 rfl ?_ rfl
        rw [decide_eq_true_eq, hat]
        exact ⟨fun h2 => .inr ⟨h1, h2⟩, fun hh => hh.elim (fun hh => absurd hh hp') (·.2)⟩
      · rw [kBin_add, wrapNat (by omega)]
        exact go _ false t0 t2 t4 t6 rfl ⟨fun e => (by cases e), fun hh => ((hat.1 hh).elim hp' (fun hh => h1 hh.1)).elim⟩ rfl
  · have hje : ws.take j = ws := List.take_of_length_le (by omega)
    rw [hje] at hb
    exact hK _ _ t0 t2 t4 t6 t7 hb
theorem word8 (hG : GoodH h) {l : Nat} (hl : (l : Int) < h.hl) : wordH h (8 * (l : Int)) = 64 * (h.vol + 1 + h.log + (l : Int)) := by
  obtain ⟨⟨_, _, _, h4, h5, h6, _⟩, h7, h8, h9, h10, h11⟩ := id hG
  unfold wordH addrA
  rw [if_pos ⟨hG, by omega, by omega⟩, if_pos (by omega)]
  omega
theorem rCommit_spec {gI : G} {v : Value} {ws : List Int} {K : Cont} (hgI : Sub gI g) (hfr : ∀ l ∈ fp, gI l = none) (hv : Sl enc1 1 gI v ws) (hl : ws.length ≤ 1000000) (hB : RbH g fp lb B) (hk : Bk k m B) (hk2 : k + 38 ≤ 1000000)
    (hK : ∀ g' n' fp', RbH g' fp' lb (commitB h ws B) → Upd fp fp' g g' → K (.tuple #[]) g' n') : AC bellowsref24_Commit_id [ptr lb 0, .agg (encH h).toArray, v] g n K := by
  refine ACalls.fold X0_mono ?_
  rw [← bellowsref24_Commit_eq]
  simp only [bellowsref24_Commit, kAgg_a]
  intro hn
  have s := St.rinit (h := h) hB hn hk
  generalize upd g n (some (.cells (encH h) .exact)) = g1 at s
  refine ldH s.hb (rGoodH_spec fun g2 n2 hs => ?_)
  have s := s.rsub hs
  rw [kUn_not]
  by_cases hG : GoodH h
  · have e : commitB h ws B = _ := if_pos hG
    rw [e] at hK
    obtain ⟨⟨_, _, _, g4, g5, g6, _⟩, g7, g8, g9, g10, g11⟩ := id hG
    refine kSplit_f (by simp [hG]) ?_
    refine lfp_ind (m := h.hl.toNat) (Inv := fun mm t g5 n5 => ∃ (l : Nat) (fp5 : List Nat), mm + l = h.hl.toNat ∧ t 0 = ptr lb 0 ∧ t 2 = v ∧ t 4 = ptr n 0 ∧ t 6 = .int .i64 (l : Nat) ∧ St RbH g fp lb n h g5 fp5 (B.add (clL (lineN h ws l))) (k + 2 * l) m) ?_ ⟨0, fp, by simp, rfl, rfl, rfl, rfl, by simpa [lineN, clL, Bd.add_nil] using s⟩
    rintro I mm t g5 n5 ih ⟨l, fp5, hm, t0, t2, t4, t6, s⟩
    simp only [bellowsref24_Commit_l1, t4, t6, kPtr_p]
    have hvl : ∀ {g' : G} {fp' : List Nat} {B' : Bd} {k' : Nat}, St RbH g fp lb n h g' fp' B' k' m → Sl enc1 1 g' v ws := fun s => hv.mono (Upd.subOf hgI hfr s.u).1
    refine kLd_of s.hb rfl ?_
    rw [kBin_lss]
    refine kSplit_d (fun hj => ?_) (fun hj => ?_)
    · refine rC_l2 (l := l) (v0 := ptr lb 0) (v4 := ptr n 0) (hvl s) hl (by omega) (fun t' b t0 t2 t4 t6 t7 hb => ?_) t0 t2 t4 t6 rfl rfl
      simp only [bellowsref24_Commit_j3, t0, t4, t6, t7, kPtr_p]
      have hls := lineN_succ h ws l
      have next : ∀ (t' : Env) (g' : G) (n' : Nat) (fp' : List Nat), t' 0 = ptr lb 0 → t' 2 = v → t' 4 = ptr n 0 → t' 6 = .int .i64 (l : Nat) → St RbH g fp lb n h g' fp' (B.add (clL (lineN h ws (l + 1)))) (k + 2 * l + 2) m → bellowsref24_Commit_j4 AC K I t' g' n' := by
        intro t' g' n' fp' t0 t2 t4 t6 s
        simp only [bellowsref24_Commit_j4, t6]
        rw [kBin_add, wrapNat (by omega)]
        exact ih (mm - 1) _ _ _ (by omega) ⟨l + 1, fp', by omega, t0, t2, t4, rfl, s⟩
      refine kSplit_c (fun hp => ?_) (fun hp => ?_)
      · refine ldH s.hb ?_
        rw [kBin_mul, wrap64_of (by omega) (by omega)]
        refine rWord_spec fun _ _ hs => ?_
        have s := s.rsub hs
        refine qLi fun _ _ hs => ?_
        have s := s.rsub hs
        refine qMem fun _ _ hs => ?_
        have s := s.rsub hs
        refine qLit2 s (by simp [liI]) (by omega) fun _ _ _ _ _ fp9 s => ?_
        refine next _ _ _ fp9 t0 t2 t4 t6 ?_
        rw [hls, if_pos (hb.1 hp)]
        rw [word8 hG (by omega), Bd.add_add] at s
        simpa [clL] using s
      · refine next _ _ _ fp5 t0 t2 t4 t6 ?_
        rw [hls, if_neg (fun hh => by rw [hb.2 hh] at hp; cases hp), List.append_nil]
        exact ⟨s.b, s.u, s.hb, s.hn, s.bk.up (by omega) (Nat.le_refl _)⟩
    · have hle : l = h.hl.toNat := by omega
      subst hle
      rw [lineN_all] at s
      simp only [bellowsref24_Commit_j5]
      refine qOp fun _ _ hs => ?_
      have s := s.rsub hs
      show kFill _ _ fun c56 => kNew c56 .exact _ _ fun l56 g9 n56 => AC bellowsref21_Builder_Add_id [t 0, _] _ _ _
      rw [t0]
      refine qLit1 s (by simp) (by omega) fun _ _ _ _ _ _ s => ?_
      show kPtr (t 4) _
      rw [t4]
      simp only [kPtr_p]
      refine ldH s.hb ?_
      show AC bellowsref24_count_id [t 0, _, _, _] _ _ _
      rw [t0]
      refine rCountT_spec s.b s.bk (by omega) fun _ _ _ _ hb' u' => ?_
      rw [Bd.add_add] at hb'
      exact aRet_of (Sub.refl _) (hK _ _ _ hb' (s.u.trans u'))
  · have e : commitB h ws B = B := if_neg hG
    rw [e] at hK
    exact kSplit_t (by simp [hG]) (aRet_of (Sub.refl _) (hK _ _ _ s.b s.u))
end Go.Proofs.YtecojalpbppfeaaGreat.Gen

namespace Go.Proofs.YtecojalpbppfeaaGreat.Abs
open Go Go.RowKit
variable {g : G} {n : Nat}
section
variable {α : Type} {R : G → List Value → α → Prop} {z : Nat} {v : Value} {xs : List α}
theorem SlR.mono {g' : G} (hR : ∀ c x, R g c x → R g' c x) (h : SlR R z g v xs) (s : Sub g g') : SlR R z g' v xs := by
  obtain ⟨els, h1, h2, h3⟩ := h
  exact ⟨els, h1.mono s, h2, fun i c x hc hx => ⟨(h3 i c x hc hx).1, hR c x (h3 i c x hc hx).2⟩⟩
theorem SlR.len {K : Value → Prop} (h : SlR R z g v xs) (k : K (.int .i64 xs.length)) : kLen v K := by
  obtain ⟨els, h1, h2, h3⟩ := h
  exact h1.len k
theorem flatV_at {z : Nat} : ∀ (els : List (List Value)) (j : Nat) (c : List Value), (∀ c ∈ els, c.length = z) → els[j]? = some c → (els.flatten.drop (j * z)).take z = c
  | [], j, c, _, h => by simp at h
  | a :: r, 0, c, hz, h => by
    simp at h; subst h
    have := hz a (by simp)
    simp [List.take_append_of_le_length, this]
  | a :: r, j + 1, c, hz, h => by
    have ha := hz a (by simp)
    rw [List.flatten_cons, List.drop_append, List.drop_eq_nil_of_le (by rw [ha, Nat.add_mul]; omega), List.nil_append, ha, Nat.add_mul, Nat.one_mul, Nat.add_sub_cancel]
    exact flatV_at r j c (fun c hc => hz c (List.mem_cons_of_mem _ hc)) (by simpa using h)
theorem SlR.idx {j : Nat} {x : α} {kk : IntKind} {K : Value → Prop} (h : SlR R z g v xs) (hj : xs[j]? = some x) (k : ∀ l o c, At g l o c → c.length = z → R g c x → K (ptr l o)) : kIndexAddr v (.int kk j) z K := by
  obtain ⟨els, h1, h2, h3⟩ := h
  have hlt : j < xs.length := (List.getElem?_eq_some_iff.1 hj).1
  have hc : els[j]? = some (els[j]'(by omega)) := List.getElem?_eq_getElem (by omega)
  generalize els[j]'(by omega) = c at hc
  have hz : ∀ c ∈ els, c.length = z := fun c hc => by
    obtain ⟨i, hi, rfl⟩ := List.mem_iff_getElem.1 hc
    exact (h3 i _ _ (List.getElem?_eq_getElem hi) (List.getElem?_eq_getElem (by omega))).1
  obtain ⟨q1, q2⟩ := h3 j c x hc hj
  refine h1.idx (by omega) (by omega) (fun l o ha => k l o c ?_ q1 q2)
  rw [Int.toNat_natCast, flatV_at els j c hz hc] at ha
  exact ha
end
end Go.Proofs.YtecojalpbppfeaaGreat.Abs

namespace Go.Proofs.YtecojalpbppfeaaGreat.Gen
open Go Go.Proofs.YtecojalpbppfeaaGreat.Abs Go.RowKit
variable {g : G} {n : Nat}
/-! ## one heap -/
def plainH : Hp := ⟨2, 5, 1, 1, 2, 2, 2, 2, 1⟩
theorem Plain_spec {K : Cont} (hK : ∀ g' n', Sub g g' → K (.agg (encH plainH).toArray) g' n') : AC bellowslaw22_Plain_id [] g n K := by
  refine ACalls.fold X0_mono ?_
  rw [← bellowslaw22_Plain_eq]
  simp only [bellowslaw22_Plain, kAgg_a]
  intro hn
  have hu : Sub g (upd g n (some (.cells [.int .i64 0, .int .i64 0, .int .i64 0, .int .i64 0, .int .i64 0, .int .i64 0, .int .i64 0, .int .i64 0, .int .i64 0] .exact))) := (Sub.refl g).new hn _
  refine ⟨rfl, by simp, rfl, by simp, rfl, by simp, rfl, by simp, rfl, by simp, rfl, by simp, rfl, by simp, ?_⟩
  refine ⟨rfl, by simp, rfl, by simp [splice], rfl, by simp [splice], ?_⟩
  refine ⟨rfl, kStN_of (upd_same _ _ _) rfl (by simp [splice]) (by simp [splice, isCell]) ?_⟩
  refine ldH (x := plainH) (bk := .exact) ?_ (aRet_of (Sub.refl _) (hK _ _ (hu.upd_fresh _ hn)))
  exact upd_same _ _ _
theorem goodPlain : GoodH plainH := by decide
theorem copyS {c : List Value} {z : List Value} {K : G → Prop} (hn : g n = none) (hz : z.length = c.length) (hc : ∀ v ∈ c, isCell v = true) (k : Sub g (upd g n (some (.cells c .exact))) → upd g n (some (.cells c .exact)) n = some (.cells c .exact) → K (upd g n (some (.cells c .exact)))) :
    kStN (upd g n (some (.cells z .exact))) n 0 c K := by
  refine kStN_of (upd_same _ _ _) rfl (by omega) hc ?_
  have e : splice z 0 c = c := by unfold splice; simp [hz]
  rw [e]
  have e2 : upd (upd g n (some (.cells z .exact))) n (some (.cells c .exact)) = upd g n (some (.cells c .exact)) := by
    funext l; by_cases h : l = n
    · subst h; rw [upd_same, upd_same]
    · rw [upd_ne _ _ h, upd_ne _ _ h, upd_ne _ _ h]
  rw [e2]
  exact k ((Sub.refl g).new hn _) (upd_same _ _ _)
end Go.Proofs.YtecojalpbppfeaaGreat.Gen

namespace Go.Proofs.YtecojalpbppfeaaGreat.Gen
open Go Go.Proofs.YtecojalpbppfeaaGreat.Abs Go.RowKit
variable {g : G} {n : Nat}
theorem li_spec {r x : Int} {K : Cont} (hK : ∀ g' n', Sub g g' → K (.agg (encI ⟨1, r, 0, 0, IntKind.i64.wrap x⟩).toArray) g' n') : AC lock_li_id [.int .i64 r, .int .u64 x] g n K := by
  refine ACalls.fold X0_mono ?_
  rw [← lock_li_eq]
  simp only [lock_li, kConv_i]
  intro hn
  have hu : Sub g (upd g n (some (.cells [.int .i64 0, .int .i64 0, .int .i64 0, .int .i64 0, .int .i64 0] .exact))) := (Sub.refl g).new hn _
  refine ⟨rfl, by simp, rfl, by simp, rfl, by simp, ?_⟩
  refine ⟨rfl, kStN_of (upd_same _ _ _) rfl (by simp) (encI_cell ⟨1, r, 0, 0, IntKind.i64.wrap x⟩) ?_⟩
  refine ldI (x := ⟨1, r, 0, 0, IntKind.i64.wrap x⟩) (upd_same _ _ _) (aRet_of (Sub.refl _) (hK _ _ ?_))
  exact (hu.upd_fresh _ hn)
theorem rLi_spec {r x : Int} {K : Cont} (hK : ∀ g' n', Sub g g' → K (.agg (encI ⟨1, r, 0, 0, IntKind.i64.wrap x⟩).toArray) g' n') : AC bellowsref23_Li_id [.int .i64 r, .int .u64 x] g n K := by
  refine ACalls.fold X0_mono ?_
  rw [← bellowsref23_Li_eq]
  simp only [bellowsref23_Li, kConv_i]
  intro hn
  have hu : Sub g (upd g n (some (.cells [.int .i64 0, .int .i64 0, .int .i64 0, .int .i64 0, .int .i64 0] .exact))) := (Sub.refl g).new hn _
  refine ⟨rfl, by simp, rfl, by simp, rfl, by simp, ?_⟩
  refine ⟨rfl, kStN_of (upd_same _ _ _) rfl (by simp) (encI_cell ⟨1, r, 0, 0, IntKind.i64.wrap x⟩) ?_⟩
  refine ldI (x := ⟨1, r, 0, 0, IntKind.i64.wrap x⟩) (upd_same _ _ _) (aRet_of (Sub.refl _) (hK _ _ ?_))
  exact (hu.upd_fresh _ hn)
def giveB (B : Bd) (addr : Int) : Bd := if 4095 < addr then B else B.add [liI 1 addr, liI 0 0, ⟨9, 0, 1, 0, 0⟩]
def takeB (B : Bd) (addr : Int) : Bd := if 4095 < addr then B else ((B.mark.here B.marks.length).add [liI 1 addr, liI 2 0, liI 3 1, ⟨10, 2, 1, 3, 0⟩, liI 0 0]).jump ⟨19, 2, 0, 0, 0⟩ B.marks.length
theorem giveB_ok {B : Bd} (h : B.ok) (a : Int) (hb : B.items.length + 3 ≤ 1000000) : (giveB B a).ok := by
  unfold giveB; split
  · exact h
  · exact Bd.ok_add h (by simp [liI]) (by simpa using hb)
theorem giveB_n (B : Bd) (a : Int) : (giveB B a).items.length ≤ B.items.length + 3 ∧ (giveB B a).marks.length ≤ B.marks.length := by
  unfold giveB; split
  · exact ⟨by omega, Nat.le_refl _⟩
  · rw [(Bd.add_n _ _).1, (Bd.add_n _ _).2]; exact ⟨Nat.le_refl _, Nat.le_refl _⟩
theorem takeB_ok {B : Bd} (h : B.ok) (a : Int) (hb : B.items.length + 6 ≤ 1000000) : (takeB B a).ok := by
  unfold takeB; split
  · exact h
  · have e : (B.mark.here (B.marks.length : Int)).items.length = B.items.length := by rw [(Bd.here_n _ _).1]; rfl
    exact Bd.ok_jump (Bd.ok_add (Bd.ok_here (Bd.ok_mark h) _) (by simp [liI]) (by rw [e]; simp; omega)) _ (by rw [(Bd.add_n _ _).1, e]; simp; omega)
theorem takeB_n (B : Bd) (a : Int) : (takeB B a).items.length ≤ B.items.length + 6 ∧ (takeB B a).marks.length ≤ B.marks.length + 1 := by
  unfold takeB; split
  · exact ⟨by omega, by omega⟩
  · have e : (B.mark.here (B.marks.length : Int)).items.length = B.items.length := by rw [(Bd.here_n _ _).1]; rfl
    have e2 : (B.mark.here (B.marks.length : Int)).marks.length = B.marks.length + 1 := by rw [(Bd.here_n _ _).2]; simp [Bd.mark]
    refine ⟨Nat.le_trans (Bd.jump_n _ _ _).1 ?_, ?_⟩
    · rw [(Bd.add_n _ _).1, e]; simp
    · rw [(Bd.jump_n _ _ _).2, (Bd.add_n _ _).2, e2]; exact Nat.le_refl _
theorem Give_spec {fp : List Nat} {lb : Nat} {B : Bd} {a : Int} (hB : BdH g fp lb B) (hsz : B.items.length + 3 ≤ 1000000)
    {K : Cont} (hK : ∀ g' n' fp', BdH g' fp' lb (giveB B a) → Upd fp fp' g g' → K (.tuple #[]) g' n') : AC lock_Give_id [ptr lb 0, .int .u64 a] g n K := by
  refine ACalls.fold X0_mono ?_
  rw [← lock_Give_eq]
  simp only [lock_Give, kBin_p_eql]
  refine kSplit_f rfl ?_
  rw [kBin_gtr]
  by_cases ha : 4095 < a
  · have e : giveB B a = B := by unfold giveB; rw [if_pos ha]
    rw [e] at hK
    exact kSplit_t (by simpa using ha) (aRet_of (Sub.refl _) (hK _ _ _ hB (Upd.refl _ _)))
  have e : giveB B a = B.add [liI 1 a, liI 0 0, ⟨9, 0, 1, 0, 0⟩] := by unfold giveB; rw [if_neg ha]
  rw [e] at hK
  refine kSplit_f (by simpa using ha) (li_spec fun g1 n1 hs1 => li_spec fun g2 n2 hs2 => ?_)
  refine fillI ⟨9, 0, 1, 0, 0⟩ _ rfl rfl rfl (fill3 (liI 1 a) (liI 0 0) ⟨9, 0, 1, 0, 0⟩ _ fun hn => ?_)
  have hs3 := (Sub.refl g2).new hn (some (.cells ((([liI 1 a, liI 0 0, ⟨9, 0, 1, 0, 0⟩] : List Ins).map encI).flatten) .exact))
  have hs := (hs1.trans hs2).trans hs3
  refine Add_spec (hB.mono hs) (sl_lit (upd_same _ _ _) 3 rfl 3) (by simp) (by simpa using hsz) (fun g4 n4 fp' h4 u4 => aRet_of (Sub.refl _) (hK _ _ fp' h4 ((Upd.sub hs).trans u4)))
theorem rGive_spec {fp : List Nat} {lb : Nat} {B : Bd} {a : Int} (hB : RbH g fp lb B) (hsz : B.items.length + 3 ≤ 1000000)
    {K : Cont} (hK : ∀ g' n' fp', RbH g' fp' lb (giveB B a) → Upd fp fp' g g' → K (.tuple #[]) g' n') : AC bellowsref23_Give_id [ptr lb 0, .int .u64 a] g n K := by
  refine ACalls.fold X0_mono ?_
  rw [← bellowsref23_Give_eq]
  simp only [bellowsref23_Give, kBin_gtr]
  by_cases ha : 4095 < a
  · have e : giveB B a = B := by unfold giveB; rw [if_pos ha]
    rw [e] at hK
    exact kSplit_t (by simpa using ha) (aRet_of (Sub.refl _) (hK _ _ _ hB (Upd.refl _ _)))
  have e : giveB B a = B.add [liI 1 a, liI 0 0, ⟨9, 0, 1, 0, 0⟩] := by unfold giveB; rw [if_neg ha]
  rw [e] at hK
  refine kSplit_f (by simpa using ha) (rLi_spec fun g1 n1 hs1 => rLi_spec fun g2 n2 hs2 => ?_)
  refine fillI ⟨9, 0, 1, 0, 0⟩ _ rfl rfl rfl (fill3 (liI 1 a) (liI 0 0) ⟨9, 0, 1, 0, 0⟩ _ fun hn => ?_)
  have hs3 := (Sub.refl g2).new hn (some (.cells ((([liI 1 a, liI 0 0, ⟨9, 0, 1, 0, 0⟩] : List Ins).map encI).flatten) .exact))
  have hs := (hs1.trans hs2).trans hs3
  refine rAdd_spec (hB.mono hs) (sl_lit (upd_same _ _ _) 3 rfl 3) (dis_lit (hB.mono (hs1.trans hs2)) hn) (by simpa using hsz) (fun g4 n4 fp' h4 u4 => aRet_of (Sub.refl _) (hK _ _ fp' h4 ((Upd.sub hs).trans u4)))
theorem fillC (K : List Value → Prop) (k : K (encI ⟨10, 2, 1, 3, 0⟩)) : kFill [(.int .i64 0), (.int .i64 0), (.int .i64 0), (.int .i64 0), (.int .i64 0)] [(0, none, (.int .i64 10)), (1, none, (.int .i64 2)), (2, none, (.int .i64 1)), (3, none, (.int .i64 3))] K :=
  ⟨rfl, by simp, rfl, by simp, rfl, by simp, rfl, by simp, k⟩
theorem Take_spec {fp : List Nat} {lb : Nat} {B : Bd} {a : Int} (hB : BdH g fp lb B) (hsz : B.items.length + 6 ≤ 1000000) (hsm : B.marks.length ≤ 1000000)
    {K : Cont} (hK : ∀ g' n' fp', BdH g' fp' lb (takeB B a) → Upd fp fp' g g' → K (.tuple #[]) g' n') : AC lock_Take_id [ptr lb 0, .int .u64 a] g n K := by
  refine ACalls.fold X0_mono ?_
  rw [← lock_Take_eq]
  simp only [lock_Take, kBin_p_eql]
  refine kSplit_f rfl ?_
  rw [kBin_gtr]
  by_cases ha : 4095 < a
  · have e : takeB B a = B := by unfold takeB; rw [if_pos ha]
    rw [e] at hK
    exact kSplit_t (by simpa using ha) (aRet_of (Sub.refl _) (hK _ _ _ hB (Upd.refl _ _)))
  have e : takeB B a = ((B.mark.here B.marks.length).add [liI 1 a, liI 2 0, liI 3 1, ⟨10, 2, 1, 3, 0⟩, liI 0 0]).jump ⟨19, 2, 0, 0, 0⟩ B.marks.length := by unfold takeB; rw [if_neg ha]
  rw [e] at hK
  have e1 : (B.mark.here (B.marks.length : Int)).items.length = B.items.length := by rw [(Bd.here_n _ _).1]; rfl
  refine kSplit_f (by simpa using ha) (Mark_spec hB hsm fun g1 n1 f1 h1 u1 => Here_spec h1 fun g2 n2 f2 h2 u2 => ?_)
  refine li_spec fun g3 n3 s3 => li_spec fun g4 n4 s4 => li_spec fun g5 n5 s5 => fillC _ (li_spec fun g6 n6 s6 => ?_)
  refine fill5 (liI 1 a) (liI 2 0) (liI 3 1) ⟨10, 2, 1, 3, 0⟩ (liI 0 0) _ fun hn => ?_
  have s26 := ((s3.trans s4).trans s5).trans s6
  have s7 := s26.trans ((Sub.refl g6).new hn (some (.cells ((([liI 1 a, liI 2 0, liI 3 1, ⟨10, 2, 1, 3, 0⟩, liI 0 0] : List Ins).map encI).flatten) .exact)))
  refine Add_spec (h2.mono s7) (sl_lit (upd_same _ _ _) 5 rfl 5) (by simp) (by rw [e1]; simp; omega) (fun g8 n8 f8 h8 u8 => ?_)
  refine fillI ⟨19, 2, 0, 0, 0⟩ _ rfl rfl rfl ?_
  have e2 : ((B.mark.here (B.marks.length : Int)).add [liI 1 a, liI 2 0, liI 3 1, ⟨10, 2, 1, 3, 0⟩, liI 0 0]).items.length = B.items.length + 5 := by rw [(Bd.add_n _ _).1, e1]; rfl
  have hjl := jmps_len 0 ((B.mark.here (B.marks.length : Int)).add [liI 1 a, liI 2 0, liI 3 1, ⟨10, 2, 1, 3, 0⟩, liI 0 0]).items
  rw [e2] at hjl
  refine Jump_spec h8 (by rw [e2]; omega) (by omega) (fun g9 n9 f9 h9 u9 => aRet_of (Sub.refl _) (hK _ _ f9 h9 ?_))
  exact (((u1.trans u2).trans (Upd.sub s7)).trans u8).trans u9
theorem rTake_spec {fp : List Nat} {lb : Nat} {B : Bd} {a : Int} (hB : RbH g fp lb B) (hsz : B.items.length + 6 ≤ 1000000) (hsm : B.marks.length ≤ 1000000)
    {K : Cont} (hK : ∀ g' n' fp', RbH g' fp' lb (takeB B a) → Upd fp fp' g g' → K (.tuple #[]) g' n') : AC bellowsref23_Take_id [ptr lb 0, .int .u64 a] g n K := by
  refine ACalls.fold X0_mono ?_
  rw [← bellowsref23_Take_eq]
  simp only [bellowsref23_Take, kBin_gtr]
  by_cases ha : 4095 < a
  · have e : takeB B a = B := by unfold takeB; rw [if_pos ha]
    rw [e] at hK
    exact kSplit_t (by simpa using ha) (aRet_of (Sub.refl _) (hK _ _ _ hB (Upd.refl _ _)))
  have e : takeB B a = ((B.mark.here B.marks.length).add [liI 1 a, liI 2 0, liI 3 1, ⟨10, 2, 1, 3, 0⟩, liI 0 0]).jump ⟨19, 2, 0, 0, 0⟩ B.marks.length := by unfold takeB; rw [if_neg ha]
  rw [e] at hK
  have e1 : (B.mark.here (B.marks.length : Int)).items.length = B.items.length := by rw [(Bd.here_n _ _).1]; rfl
  refine kSplit_f (by simpa using ha) (rMark_spec hB hsm fun g1 n1 f1 h1 u1 => rHere_spec h1 fun g2 n2 f2 h2 u2 => ?_)
  refine rLi_spec fun g3 n3 s3 => rLi_spec fun g4 n4 s4 => rLi_spec fun g5 n5 s5 => fillC _ (rLi_spec fun g6 n6 s6 => ?_)
  refine fill5 (liI 1 a) (liI 2 0) (liI 3 1) ⟨10, 2, 1, 3, 0⟩ (liI 0 0) _ fun hn => ?_
  have s26 := ((s3.trans s4).trans s5).trans s6
  have s7 := s26.trans ((Sub.refl g6).new hn (some (.cells ((([liI 1 a, liI 2 0, liI 3 1, ⟨10, 2, 1, 3, 0⟩, liI 0 0] : List Ins).map encI).flatten) .exact)))
  refine rAdd_spec (h2.mono s7) (sl_lit (upd_same _ _ _) 5 rfl 5) (dis_lit (h2.mono s26) hn) (by rw [e1]; simp; omega) (fun g8 n8 f8 h8 u8 => ?_)
  refine fillI ⟨19, 2, 0, 0, 0⟩ _ rfl rfl rfl ?_
  have e2 : ((B.mark.here (B.marks.length : Int)).add [liI 1 a, liI 2 0, liI 3 1, ⟨10, 2, 1, 3, 0⟩, liI 0 0]).items.length = B.items.length + 5 := by rw [(Bd.add_n _ _).1, e1]; rfl
  refine rJump_spec h8 (by rw [e2]; omega) (fun g9 n9 f9 h9 u9 => aRet_of (Sub.refl _) (hK _ _ f9 h9 ?_))
  exact (((u1.trans u2).trans (Upd.sub s7)).trans u8).trans u9
end Go.Proofs.YtecojalpbppfeaaGreat.Gen

namespace Go.Proofs.YtecojalpbppfeaaGreat.Gen
open Go Go.Proofs.YtecojalpbppfeaaGreat.Abs Go.RowKit
variable {g : G} {n : Nat}
structure Sg (H : G → List Nat → Nat → Bd → Prop) (lb : Nat) (gK : G) (g : G) (fp : List Nat) (B : Bd) (k m : Nat) : Prop where
  b : H g fp lb B
  hs : Sub gK g
  hd : ∀ l ∈ fp, gK l = none
  bk : Bk k m B
variable {gK : G} {fp fp' : List Nat} {lb k m : Nat} {h : Hp} {B B' : Bd}
theorem Sg.sub {g' : G} (s : Sg BdH lb gK g fp B k m) (hs : Sub g g') : Sg BdH lb gK g' fp B k m :=
  ⟨s.b.mono hs, s.hs.trans hs, s.hd, s.bk⟩
theorem Sg.rsub {g' : G} (s : Sg RbH lb gK g fp B k m) (hs : Sub g g') : Sg RbH lb gK g' fp B k m :=
  ⟨s.b.mono hs, s.hs.trans hs, s.hd, s.bk⟩
theorem Sg.move {H : G → List Nat → Nat → Bd → Prop} {g' : G} {k' m' : Nat} (s : Sg H lb gK g fp B k m) (h' : H g' fp' lb B') (u : Upd fp fp' g g') (hk : Bk k' m' B') : Sg H lb gK g' fp' B' k' m' := by
  obtain ⟨q1, q2⟩ := Upd.subOf s.hs s.hd u
  exact ⟨h', q1, q2, hk⟩
def hideF (g : G) (fp : List Nat) : G := fun l => if l ∈ fp then none else g l
theorem hideF_sub (g : G) (fp : List Nat) : Sub (hideF g fp) g := fun l => by
  unfold hideF; by_cases h : l ∈ fp
  · exact .inl (by simp [h])
  · exact .inr (by simp [h])
theorem hideF_some {g : G} {fp : List Nat} {l : Nat} {b : Blk} (h : g l = some b) (hn : l ∉ fp) : hideF g fp l = some b := by unfold hideF; rw [if_neg hn]; exact h
theorem hideF_none {g : G} {fp : List Nat} {l : Nat} (h : l ∈ fp) : hideF g fp l = none := by unfold hideF; rw [if_pos h]
theorem Sg.keepN {H : G → List Nat → Nat → Bd → Prop} (s : Sg H lb gK g fp B k m) {l : Nat} {b : Blk} (h : gK l = some b) : l ∉ fp := fun hm => by rw [s.hd l hm] at h; cases h
/-- all that stands is kept from here on -/
theorem Sg.rek {H : G → List Nat → Nat → Bd → Prop} (s : Sg H lb gK g fp B k m) : Sg H lb (hideF g fp) g fp B k m := ⟨s.b, hideF_sub _ _, fun _ hl => hideF_none hl, s.bk⟩
theorem Sg.old {H : G → List Nat → Nat → Bd → Prop} (s : Sg H lb gK g fp B k m) : Sub gK (hideF g fp) := fun l => by
  cases hq : gK l with
  | none => exact .inl rfl
  | some b => exact .inr (hideF_some (s.hs.live hq) (s.keepN hq)).symm
theorem Sg.start (hB : BdH g fp lb B) (hk : Bk k m B) : Sg BdH lb (hideF g fp) g fp B k m := ⟨hB, hideF_sub _ _, fun _ hl => hideF_none hl, hk⟩
theorem Sg.rstart (hB : RbH g fp lb B) (hk : Bk k m B) : Sg RbH lb (hideF g fp) g fp B k m := ⟨hB, hideF_sub _ _, fun _ hl => hideF_none hl, hk⟩

theorem aAdd (s : Sg BdH lb gK g fp B k m) {x : Value} {ys : List Ins} (hx : Sl encI 5 g x ys) (h0 : 0 < ys.length) (hl : ∀ i ∈ ys, 0 ≤ i.op ∧ i.op ≤ 22) (hk : k + ys.length ≤ 1000000) {K : Cont}
    (hK : ∀ v g' n' fp', Sg BdH lb gK g' fp' (B.add ys) (k + ys.length) m → K v g' n') : AC emit_Builder_Add_id [ptr lb 0, x] g n K :=
  Add_spec s.b hx h0 (by have := s.bk.2.1; omega) fun g' n' fp' hB u => hK _ g' n' fp' (s.move hB u (s.bk.add hl hk))
theorem aMark (s : Sg BdH lb gK g fp B k m) (hm : m ≤ 1000000) {K : Cont}
    (hK : ∀ g' n' fp', Sg BdH lb gK g' fp' B.mark k (m + 1) → K (.int .i64 B.marks.length) g' n') : AC emit_Builder_Mark_id [ptr lb 0] g n K :=
  Mark_spec s.b (by have := s.bk.2.2; omega) fun g' n' fp' hB u => hK g' n' fp' (s.move hB u s.bk.mark)
theorem aHere (s : Sg BdH lb gK g fp B k m) {x : Int} {K : Cont}
    (hK : ∀ v g' n' fp', Sg BdH lb gK g' fp' (B.here x) k m → K v g' n') : AC emit_Builder_Here_id [ptr lb 0, .int .i64 x] g n K :=
  Here_spec s.b fun g' n' fp' hB u => hK _ g' n' fp' (s.move hB u (s.bk.here x))
theorem aJump (s : Sg BdH lb gK g fp B k m) {i : Ins} {x : Int} (hk : k < 1000000) {K : Cont}
    (hK : ∀ v g' n' fp', Sg BdH lb gK g' fp' (B.jump i x) (k + 1) m → K v g' n') : AC emit_Builder_Jump_id [ptr lb 0, .agg (encI i).toArray, .int .i64 x] g n K :=
  Jump_spec s.b (by have := s.bk.2.1; omega) (Nat.le_trans (jmps_le B) (by have := s.bk.2.1; omega)) fun g' n' fp' hB u => hK _ g' n' fp' (s.move hB u (s.bk.jump i x hk))
theorem bAdd (s : Sg RbH lb gK g fp B k m) {x : Value} {ys : List Ins} (hx : Sl encI 5 g x ys) (h0 : 0 < ys.length) (hl : ∀ i ∈ ys, 0 ≤ i.op ∧ i.op ≤ 22) (hd : ∀ l, blkOf x = some l → l ∉ fp) (hk : k + ys.length ≤ 1000000) {K : Cont}
    (hK : ∀ v g' n' fp', Sg RbH lb gK g' fp' (B.add ys) (k + ys.length) m → K v g' n') : AC bellowsref21_Builder_Add_id [ptr lb 0, x] g n K :=
  rAdd_spec s.b hx hd (by have := s.bk.2.1; omega) fun g' n' fp' hB u => hK _ g' n' fp' (s.move hB u (s.bk.add hl hk))
theorem bMark (s : Sg RbH lb gK g fp B k m) (hm : m ≤ 1000000) {K : Cont}
    (hK : ∀ g' n' fp', Sg RbH lb gK g' fp' B.mark k (m + 1) → K (.int .i64 B.marks.length) g' n') : AC bellowsref21_Builder_Mark_id [ptr lb 0] g n K :=
  rMark_spec s.b (by have := s.bk.2.2; omega) fun g' n' fp' hB u => hK g' n' fp' (s.move hB u s.bk.mark)
theorem bHere (s : Sg RbH lb gK g fp B k m) {x : Int} {K : Cont}
    (hK : ∀ v g' n' fp', Sg RbH lb gK g' fp' (B.here x) k m → K v g' n') : AC bellowsref21_Builder_Here_id [ptr lb 0, .int .i64 x] g n K :=
  rHere_spec s.b fun g' n' fp' hB u => hK _ g' n' fp' (s.move hB u (s.bk.here x))
theorem bJump (s : Sg RbH lb gK g fp B k m) {i : Ins} {x : Int} (hk : k < 1000000) {K : Cont}
    (hK : ∀ v g' n' fp', Sg RbH lb gK g' fp' (B.jump i x) (k + 1) m → K v g' n') : AC bellowsref21_Builder_Jump_id [ptr lb 0, .agg (encI i).toArray, .int .i64 x] g n K :=
  rJump_spec s.b (by have := s.bk.2.1; omega) fun g' n' fp' hB u => hK _ g' n' fp' (s.move hB u (s.bk.jump i x hk))
theorem aLit1 {a : Ins} (s : Sg BdH lb gK g fp B k m) (hl : ∀ i ∈ ([a] : List Ins), 0 ≤ i.op ∧ i.op ≤ 22) (hk : k + 1 ≤ 1000000) {K : List Value → Nat → Value → G → Nat → Prop}
    (hK : ∀ cc l v g' n' fp', Sg BdH lb gK g' fp' (B.add [a]) (k + 1) m → K cc l v g' n') :
    kFill (reps 1 [(.int .i64 0), (.int .i64 0), (.int .i64 0), (.int .i64 0), (.int .i64 0)]) [(0, (some 5), .agg (encI a).toArray)] fun c => kNew c .exact g n fun l g' n' => AC emit_Builder_Add_id [ptr lb 0, .slice (some ⟨l, 0, none⟩) 1 1] g' n' fun v g'' n'' => K c l v g'' n'' := by
  refine litF1 a fun hn => ?_
  have hs := (Sub.refl g).new hn (some (.cells ((([a] : List Ins).map encI).flatten) .exact))
  exact aAdd (s.sub hs) (sl_lit (upd_same _ _ _) 1 rfl 1) (by simp) hl hk fun v g' n' fp' s' => hK _ _ _ _ _ _ s'
theorem aLat1 (a : Ins) (s : Sg BdH lb gK g fp B k m) (hl : ∀ i ∈ ([a] : List Ins), 0 ≤ i.op ∧ i.op ≤ 22) (hk : k + 1 ≤ 1000000) {K : List Value → Nat → Value → G → Nat → Prop}
    (hK : ∀ cc l v g' n' fp', Sg BdH lb gK g' fp' (B.add [a]) (k + 1) m → K cc l v g' n') :
    kFill (reps 1 [(.int .i64 0), (.int .i64 0), (.int .i64 0), (.int .i64 0), (.int .i64 0)]) [(0, (some 5), .agg (encI a).toArray)] fun c => kNew c .exact g n fun l g' n' => AC emit_Builder_Add_id [ptr lb 0, .slice (some ⟨l, 0, none⟩) 1 1] g' n' fun v g'' n'' => K c l v g'' n'' := aLit1 s hl hk hK
theorem bLit1 {a : Ins} (s : Sg RbH lb gK g fp B k m) (hl : ∀ i ∈ ([a] : List Ins), 0 ≤ i.op ∧ i.op ≤ 22) (hk : k + 1 ≤ 1000000) {K : List Value → Nat → Value → G → Nat → Prop}
    (hK : ∀ cc l v g' n' fp', Sg RbH lb gK g' fp' (B.add [a]) (k + 1) m → K cc l v g' n') :
    kFill (reps 1 [(.int .i64 0), (.int .i64 0), (.int .i64 0), (.int .i64 0), (.int .i64 0)]) [(0, (some 5), .agg (encI a).toArray)] fun c => kNew c .exact g n fun l g' n' => AC bellowsref21_Builder_Add_id [ptr lb 0, .slice (some ⟨l, 0, none⟩) 1 1] g' n' fun v g'' n'' => K c l v g'' n'' := by
  refine litF1 a fun hn => ?_
  have hs := (Sub.refl g).new hn (some (.cells ((([a] : List Ins).map encI).flatten) .exact))
  exact bAdd (s.rsub hs) (sl_lit (upd_same _ _ _) 1 rfl 1) (by simp) hl (dis_lit s.b hn) hk fun v g' n' fp' s' => hK _ _ _ _ _ _ s'
theorem bLat1 (a : Ins) (s : Sg RbH lb gK g fp B k m) (hl : ∀ i ∈ ([a] : List Ins), 0 ≤ i.op ∧ i.op ≤ 22) (hk : k + 1 ≤ 1000000) {K : List Value → Nat → Value → G → Nat → Prop}
    (hK : ∀ cc l v g' n' fp', Sg RbH lb gK g' fp' (B.add [a]) (k + 1) m → K cc l v g' n') :
    kFill (reps 1 [(.int .i64 0), (.int .i64 0), (.int .i64 0), (.int .i64 0), (.int .i64 0)]) [(0, (some 5), .agg (encI a).toArray)] fun c => kNew c .exact g n fun l g' n' => AC bellowsref21_Builder_Add_id [ptr lb 0, .slice (some ⟨l, 0, none⟩) 1 1] g' n' fun v g'' n'' => K c l v g'' n'' := bLit1 s hl hk hK
theorem aLit2 {a b : Ins} (s : Sg BdH lb gK g fp B k m) (hl : ∀ i ∈ ([a, b] : List Ins), 0 ≤ i.op ∧ i.op ≤ 22) (hk : k + 2 ≤ 1000000) {K : List Value → Nat → Value → G → Nat → Prop}
    (hK : ∀ cc l v g' n' fp', Sg BdH lb gK g' fp' (B.add [a, b]) (k + 2) m → K cc l v g' n') :
    kFill (reps 2 [(.int .i64 0), (.int .i64 0), (.int .i64 0), (.int .i64 0), (.int .i64 0)]) [(0, (some 5), .agg (encI a).toArray), (5, (some 5), .agg (encI b).toArray)] fun c => kNew c .exact g n fun l g' n' => AC emit_Builder_Add_id [ptr lb 0, .slice (some ⟨l, 0, none⟩) 2 2] g' n' fun v g'' n'' => K c l v g'' n'' := by
  refine litF2 a b fun hn => ?_
  have hs := (Sub.refl g).new hn (some (.cells ((([a, b] : List Ins).map encI).flatten) .exact))
  exact aAdd (s.sub hs) (sl_lit (upd_same _ _ _) 2 rfl 2) (by simp) hl hk fun v g' n' fp' s' => hK _ _ _ _ _ _ s'
theorem aLat2 (a b : Ins) (s : Sg BdH lb gK g fp B k m) (hl : ∀ i ∈ ([a, b] : List Ins), 0 ≤ i.op ∧ i.op ≤ 22) (hk : k + 2 ≤ 1000000) {K : List Value → Nat → Value → G → Nat → Prop}
    (hK : ∀ cc l v g' n' fp', Sg BdH lb gK g' fp' (B.add [a, b]) (k + 2) m → K cc l v g' n') :
    kFill (reps 2 [(.int .i64 0), (.int .i64 0), (.int .i64 0), (.int .i64 0), (.int .i64 0)]) [(0, (some 5), .agg (encI a).toArray), (5, (some 5), .agg (encI b).toArray)] fun c => kNew c .exact g n fun l g' n' => AC emit_Builder_Add_id [ptr lb 0, .slice (some ⟨l, 0, none⟩) 2 2] g' n' fun v g'' n'' => K c l v g'' n'' := aLit2 s hl hk hK
theorem bLit2 {a b : Ins} (s : Sg RbH lb gK g fp B k m) (hl : ∀ i ∈ ([a, b] : List Ins), 0 ≤ i.op ∧ i.op ≤ 22) (hk : k + 2 ≤ 1000000) {K : List Value → Nat → Value → G → Nat → Prop}
    (hK : ∀ cc l v g' n' fp', Sg RbH lb gK g' fp' (B.add [a, b]) (k + 2) m → K cc l v g' n') :
    kFill (reps 2 [(.int .i64 0), (.int .i64 0), (.int .i64 0), (.int .i64 0), (.int .i64 0)]) [(0, (some 5), .agg (encI a).toArray), (5, (some 5), .agg (encI b).toArray)] fun c => kNew c .exact g n fun l g' n' => AC bellowsref21_Builder_Add_id [ptr lb 0, .slice (some ⟨l, 0, none⟩) 2 2] g' n' fun v g'' n'' => K c l v g'' n'' := by
  refine litF2 a b fun hn => ?_
  have hs := (Sub.refl g).new hn (some (.cells ((([a, b] : List Ins).map encI).flatten) .exact))
  exact bAdd (s.rsub hs) (sl_lit (upd_same _ _ _) 2 rfl 2) (by simp) hl (dis_lit s.b hn) hk fun v g' n' fp' s' => hK _ _ _ _ _ _ s'
theorem bLat2 (a b : Ins) (s : Sg RbH lb gK g fp B k m) (hl : ∀ i ∈ ([a, b] : List Ins), 0 ≤ i.op ∧ i.op ≤ 22) (hk : k + 2 ≤ 1000000) {K : List Value → Nat → Value → G → Nat → Prop}
    (hK : ∀ cc l v g' n' fp', Sg RbH lb gK g' fp' (B.add [a, b]) (k + 2) m → K cc l v g' n') :
    kFill (reps 2 [(.int .i64 0), (.int .i64 0), (.int .i64 0), (.int .i64 0), (.int .i64 0)]) [(0, (some 5), .agg (encI a).toArray), (5, (some 5), .agg (encI b).toArray)] fun c => kNew c .exact g n fun l g' n' => AC bellowsref21_Builder_Add_id [ptr lb 0, .slice (some ⟨l, 0, none⟩) 2 2] g' n' fun v g'' n'' => K c l v g'' n'' := bLit2 s hl hk hK
theorem aLit3 {a b c : Ins} (s : Sg BdH lb gK g fp B k m) (hl : ∀ i ∈ ([a, b, c] : List Ins), 0 ≤ i.op ∧ i.op ≤ 22) (hk : k + 3 ≤ 1000000) {K : List Value → Nat → Value → G → Nat → Prop}
    (hK : ∀ cc l v g' n' fp', Sg BdH lb gK g' fp' (B.add [a, b, c]) (k + 3) m → K cc l v g' n') :
    kFill (reps 3 [(.int .i64 0), (.int .i64 0), (.int .i64 0), (.int .i64 0), (.int .i64 0)]) [(0, (some 5), .agg (encI a).toArray), (5, (some 5), .agg (encI b).toArray), (10, (some 5), .agg (encI c).toArray)] fun c => kNew c .exact g n fun l g' n' => AC emit_Builder_Add_id [ptr lb 0, .slice (some ⟨l, 0, none⟩) 3 3] g' n' fun v g'' n'' => K c l v g'' n'' := by
  refine litF3 a b c fun hn => ?_
  have hs := (Sub.refl g).new hn (some (.cells ((([a, b, c] : List Ins).map encI).flatten) .exact))
  exact aAdd (s.sub hs) (sl_lit (upd_same _ _ _) 3 rfl 3) (by simp) hl hk fun v g' n' fp' s' => hK _ _ _ _ _ _ s'
theorem aLat3 (a b c : Ins) (s : Sg BdH lb gK g fp B k m) (hl : ∀ i ∈ ([a, b, c] : List Ins), 0 ≤ i.op ∧ i.op ≤ 22) (hk : k + 3 ≤ 1000000) {K : List Value → Nat → Value → G → Nat → Prop}
    (hK : ∀ cc l v g' n' fp', Sg BdH lb gK g' fp' (B.add [a, b, c]) (k + 3) m → K cc l v g' n') :
    kFill (reps 3 [(.int .i64 0), (.int .i64 0), (.int .i64 0), (.int .i64 0), (.int .i64 0)]) [(0, (some 5), .agg (encI a).toArray), (5, (some 5), .agg (encI b).toArray), (10, (some 5), .agg (encI c).toArray)] fun c => kNew c .exact g n fun l g' n' => AC emit_Builder_Add_id [ptr lb 0, .slice (some ⟨l, 0, none⟩) 3 3] g' n' fun v g'' n'' => K c l v g'' n'' := aLit3 s hl hk hK
theorem bLit3 {a b c : Ins} (s : Sg RbH lb gK g fp B k m) (hl : ∀ i ∈ ([a, b, c] : List Ins), 0 ≤ i.op ∧ i.op ≤ 22) (hk : k + 3 ≤ 1000000) {K : List Value → Nat → Value → G → Nat → Prop}
    (hK : ∀ cc l v g' n' fp', Sg RbH lb gK g' fp' (B.add [a, b, c]) (k + 3) m → K cc l v g' n') :
    kFill (reps 3 [(.int .i64 0), (.int .i64 0), (.int .i64 0), (.int .i64 0), (.int .i64 0)]) [(0, (some 5), .agg (encI a).toArray), (5, (some 5), .agg (encI b).toArray), (10, (some 5), .agg (encI c).toArray)] fun c => kNew c .exact g n fun l g' n' => AC bellowsref21_Builder_Add_id [ptr lb 0, .slice (some ⟨l, 0, none⟩) 3 3] g' n' fun v g'' n'' => K c l v g'' n'' := by
  refine litF3 a b c fun hn => ?_
  have hs := (Sub.refl g).new hn (some (.cells ((([a, b, c] : List Ins).map encI).flatten) .exact))
  exact bAdd (s.rsub hs) (sl_lit (upd_same _ _ _) 3 rfl 3) (by simp) hl (dis_lit s.b hn) hk fun v g' n' fp' s' => hK _ _ _ _ _ _ s'
theorem bLat3 (a b c : Ins) (s : Sg RbH lb gK g fp B k m) (hl : ∀ i ∈ ([a, b, c] : List Ins), 0 ≤ i.op ∧ i.op ≤ 22) (hk : k + 3 ≤ 1000000) {K : List Value → Nat → Value → G → Nat → Prop}
    (hK : ∀ cc l v g' n' fp', Sg RbH lb gK g' fp' (B.add [a, b, c]) (k + 3) m → K cc l v g' n') :
    kFill (reps 3 [(.int .i64 0), (.int .i64 0), (.int .i64 0), (.int .i64 0), (.int .i64 0)]) [(0, (some 5), .agg (encI a).toArray), (5, (some 5), .agg (encI b).toArray), (10, (some 5), .agg (encI c).toArray)] fun c => kNew c .exact g n fun l g' n' => AC bellowsref21_Builder_Add_id [ptr lb 0, .slice (some ⟨l, 0, none⟩) 3 3] g' n' fun v g'' n'' => K c l v g'' n'' := bLit3 s hl hk hK
theorem litF5 (a b c d e : Ins) {K : List Value → Prop} (kk : K ((([a, b, c, d, e] : List Ins).map encI).flatten)) : kFill (reps 5 [(.int .i64 0), (.int .i64 0), (.int .i64 0), (.int .i64 0), (.int .i64 0)]) [(0, (some 5), .agg (encI a).toArray), (5, (some 5), .agg (encI b).toArray), (10, (some 5), .agg (encI c).toArray), (15, (some 5), .agg (encI d).toArray), (20, (some 5), .agg (encI e).toArray)] K :=
  ⟨rfl, by simp [reps], rfl, by simp [reps, splice, encI_len], rfl, by simp [reps, splice, encI_len], rfl, by simp [reps, splice, encI_len], rfl, by simp [reps, splice, encI_len], kk⟩
theorem aLit5 {a b c d e : Ins} (s : Sg BdH lb gK g fp B k m) (hl : ∀ i ∈ ([a, b, c, d, e] : List Ins), 0 ≤ i.op ∧ i.op ≤ 22) (hk : k + 5 ≤ 1000000) {K : List Value → Nat → Value → G → Nat → Prop}
    (hK : ∀ cc l v g' n' fp', Sg BdH lb gK g' fp' (B.add [a, b, c, d, e]) (k + 5) m → K cc l v g' n') :
    kFill (reps 5 [(.int .i64 0), (.int .i64 0), (.int .i64 0), (.int .i64 0), (.int .i64 0)]) [(0, (some 5), .agg (encI a).toArray), (5, (some 5), .agg (encI b).toArray), (10, (some 5), .agg (encI c).toArray), (15, (some 5), .agg (encI d).toArray), (20, (some 5), .agg (encI e).toArray)] fun c => kNew c .exact g n fun l g' n' => AC emit_Builder_Add_id [ptr lb 0, .slice (some ⟨l, 0, none⟩) 5 5] g' n' fun v g'' n'' => K c l v g'' n'' := by
  refine litF5 a b c d e fun hn => ?_
  have hs := (Sub.refl g).new hn (some (.cells ((([a, b, c, d, e] : List Ins).map encI).flatten) .exact))
  exact aAdd (s.sub hs) (sl_lit (upd_same _ _ _) 5 rfl 5) (by simp) hl hk fun v g' n' fp' s' => hK _ _ _ _ _ _ s'
theorem aLat5 (a b c d e : Ins) (s : Sg BdH lb gK g fp B k m) (hl : ∀ i ∈ ([a, b, c, d, e] : List Ins), 0 ≤ i.op ∧ i.op ≤ 22) (hk : k + 5 ≤ 1000000) {K : List Value → Nat → Value → G → Nat → Prop}
    (hK : ∀ cc l v g' n' fp', Sg BdH lb gK g' fp' (B.add [a, b, c, d, e]) (k + 5) m → K cc l v g' n') :
    kFill (reps 5 [(.int .i64 0), (.int .i64 0), (.int .i64 0), (.int .i64 0), (.int .i64 0)]) [(0, (some 5), .agg (encI a).toArray), (5, (some 5), .agg (encI b).toArray), (10, (some 5), .agg (encI c).toArray), (15, (some 5), .agg (encI d).toArray), (20, (some 5), .agg (encI e).toArray)] fun c => kNew c .exact g n fun l g' n' => AC emit_Builder_Add_id [ptr lb 0, .slice (some ⟨l, 0, none⟩) 5 5] g' n' fun v g'' n'' => K c l v g'' n'' := aLit5 s hl hk hK
theorem bLit5 {a b c d e : Ins} (s : Sg RbH lb gK g fp B k m) (hl : ∀ i ∈ ([a, b, c, d, e] : List Ins), 0 ≤ i.op ∧ i.op ≤ 22) (hk : k + 5 ≤ 1000000) {K : List Value → Nat → Value → G → Nat → Prop}
    (hK : ∀ cc l v g' n' fp', Sg RbH lb gK g' fp' (B.add [a, b, c, d, e]) (k + 5) m → K cc l v g' n') :
    kFill (reps 5 [(.int .i64 0), (.int .i64 0), (.int .i64 0), (.int .i64 0), (.int .i64 0)]) [(0, (some 5), .agg (encI a).toArray), (5, (some 5), .agg (encI b).toArray), (10, (some 5), .agg (encI c).toArray), (15, (some 5), .agg (encI d).toArray), (20, (some 5), .agg (encI e).toArray)] fun c => kNew c .exact g n fun l g' n' => AC bellowsref21_Builder_Add_id [ptr lb 0, .slice (some ⟨l, 0, none⟩) 5 5] g' n' fun v g'' n'' => K c l v g'' n'' := by
  refine litF5 a b c d e fun hn => ?_
  have hs := (Sub.refl g).new hn (some (.cells ((([a, b, c, d, e] : List Ins).map encI).flatten) .exact))
  exact bAdd (s.rsub hs) (sl_lit (upd_same _ _ _) 5 rfl 5) (by simp) hl (dis_lit s.b hn) hk fun v g' n' fp' s' => hK _ _ _ _ _ _ s'
theorem bLat5 (a b c d e : Ins) (s : Sg RbH lb gK g fp B k m) (hl : ∀ i ∈ ([a, b, c, d, e] : List Ins), 0 ≤ i.op ∧ i.op ≤ 22) (hk : k + 5 ≤ 1000000) {K : List Value → Nat → Value → G → Nat → Prop}
    (hK : ∀ cc l v g' n' fp', Sg RbH lb gK g' fp' (B.add [a, b, c, d, e]) (k + 5) m → K cc l v g' n') :
    kFill (reps 5 [(.int .i64 0), (.int .i64 0), (.int .i64 0), (.int .i64 0), (.int .i64 0)]) [(0, (some 5), .agg (encI a).toArray), (5, (some 5), .agg (encI b).toArray), (10, (some 5), .agg (encI c).toArray), (15, (some 5), .agg (encI d).toArray), (20, (some 5), .agg (encI e).toArray)] fun c => kNew c .exact g n fun l g' n' => AC bellowsref21_Builder_Add_id [ptr lb 0, .slice (some ⟨l, 0, none⟩) 5 5] g' n' fun v g'' n'' => K c l v g'' n'' := bLit5 s hl hk hK
theorem aLit6 {a b c d e f : Ins} (s : Sg BdH lb gK g fp B k m) (hl : ∀ i ∈ ([a, b, c, d, e, f] : List Ins), 0 ≤ i.op ∧ i.op ≤ 22) (hk : k + 6 ≤ 1000000) {K : List Value → Nat → Value → G → Nat → Prop}
    (hK : ∀ cc l v g' n' fp', Sg BdH lb gK g' fp' (B.add [a, b, c, d, e, f]) (k + 6) m → K cc l v g' n') :
    kFill (reps 6 [(.int .i64 0), (.int .i64 0), (.int .i64 0), (.int .i64 0), (.int .i64 0)]) [(0, (some 5), .agg (encI a).toArray), (5, (some 5), .agg (encI b).toArray), (10, (some 5), .agg (encI c).toArray), (15, (some 5), .agg (encI d).toArray), (20, (some 5), .agg (encI e).toArray), (25, (some 5), .agg (encI f).toArray)] fun c => kNew c .exact g n fun l g' n' => AC emit_Builder_Add_id [ptr lb 0, .slice (some ⟨l, 0, none⟩) 6 6] g' n' fun v g'' n'' => K c l v g'' n'' := by
  refine litF6 a b c d e f fun hn => ?_
  have hs := (Sub.refl g).new hn (some (.cells ((([a, b, c, d, e, f] : List Ins).map encI).flatten) .exact))
  exact aAdd (s.sub hs) (sl_lit (upd_same _ _ _) 6 rfl 6) (by simp) hl hk fun v g' n' fp' s' => hK _ _ _ _ _ _ s'
theorem aLat6 (a b c d e f : Ins) (s : Sg BdH lb gK g fp B k m) (hl : ∀ i ∈ ([a, b, c, d, e, f] : List Ins), 0 ≤ i.op ∧ i.op ≤ 22) (hk : k + 6 ≤ 1000000) {K : List Value → Nat → Value → G → Nat → Prop}
    (hK : ∀ cc l v g' n' fp', Sg BdH lb gK g' fp' (B.add [a, b, c, d, e, f]) (k + 6) m → K cc l v g' n') :
    kFill (reps 6 [(.int .i64 0), (.int .i64 0), (.int .i64 0), (.int .i64 0), (.int .i64 0)]) [(0, (some 5), .agg (encI a).toArray), (5, (some 5), .agg (encI b).toArray), (10, (some 5), .agg (encI c).toArray), (15, (some 5), .agg (encI d).toArray), (20, (some 5), .agg (encI e).toArray), (25, (some 5), .agg (encI f).toArray)] fun c => kNew c .exact g n fun l g' n' => AC emit_Builder_Add_id [ptr lb 0, .slice (some ⟨l, 0, none⟩) 6 6] g' n' fun v g'' n'' => K c l v g'' n'' := aLit6 s hl hk hK
theorem bLit6 {a b c d e f : Ins} (s : Sg RbH lb gK g fp B k m) (hl : ∀ i ∈ ([a, b, c, d, e, f] : List Ins), 0 ≤ i.op ∧ i.op ≤ 22) (hk : k + 6 ≤ 1000000) {K : List Value → Nat → Value → G → Nat → Prop}
    (hK : ∀ cc l v g' n' fp', Sg RbH lb gK g' fp' (B.add [a, b, c, d, e, f]) (k + 6) m → K cc l v g' n') :
    kFill (reps 6 [(.int .i64 0), (.int .i64 0), (.int .i64 0), (.int .i64 0), (.int .i64 0)]) [(0, (some 5), .agg (encI a).toArray), (5, (some 5), .agg (encI b).toArray), (10, (some 5), .agg (encI c).toArray), (15, (some 5), .agg (encI d).toArray), (20, (some 5), .agg (encI e).toArray), (25, (some 5), .agg (encI f).toArray)] fun c => kNew c .exact g n fun l g' n' => AC bellowsref21_Builder_Add_id [ptr lb 0, .slice (some ⟨l, 0, none⟩) 6 6] g' n' fun v g'' n'' => K c l v g'' n'' := by
  refine litF6 a b c d e f fun hn => ?_
  have hs := (Sub.refl g).new hn (some (.cells ((([a, b, c, d, e, f] : List Ins).map encI).flatten) .exact))
  exact bAdd (s.rsub hs) (sl_lit (upd_same _ _ _) 6 rfl 6) (by simp) hl (dis_lit s.b hn) hk fun v g' n' fp' s' => hK _ _ _ _ _ _ s'
theorem bLat6 (a b c d e f : Ins) (s : Sg RbH lb gK g fp B k m) (hl : ∀ i ∈ ([a, b, c, d, e, f] : List Ins), 0 ≤ i.op ∧ i.op ≤ 22) (hk : k + 6 ≤ 1000000) {K : List Value → Nat → Value → G → Nat → Prop}
    (hK : ∀ cc l v g' n' fp', Sg RbH lb gK g' fp' (B.add [a, b, c, d, e, f]) (k + 6) m → K cc l v g' n') :
    kFill (reps 6 [(.int .i64 0), (.int .i64 0), (.int .i64 0), (.int .i64 0), (.int .i64 0)]) [(0, (some 5), .agg (encI a).toArray), (5, (some 5), .agg (encI b).toArray), (10, (some 5), .agg (encI c).toArray), (15, (some 5), .agg (encI d).toArray), (20, (some 5), .agg (encI e).toArray), (25, (some 5), .agg (encI f).toArray)] fun c => kNew c .exact g n fun l g' n' => AC bellowsref21_Builder_Add_id [ptr lb 0, .slice (some ⟨l, 0, none⟩) 6 6] g' n' fun v g'' n'' => K c l v g'' n'' := bLit6 s hl hk hK
theorem bLoad {K : Cont} (hK : ∀ g' n', Sub g g' → K (.agg (encI ⟨8, 4, 1, 0, 0⟩).toArray) g' n') : AC bellowsref25_load_id [] g n K := by
  refine ACalls.fold X0_mono ?_
  rw [← bellowsref25_load_eq]
  simp only [bellowsref25_load]
  intro hn
  have hu : Sub g (upd g n (some (.cells [(.int .i64 0), (.int .i64 0), (.int .i64 0), (.int .i64 0), (.int .i64 0)] .exact))) := (Sub.refl g).new hn _
  refine ⟨rfl, by simp, rfl, by simp, rfl, by simp, ?_⟩
  refine ⟨rfl, kStN_of (upd_same _ _ _) rfl (by simp) (encI_cell ⟨8, 4, 1, 0, 0⟩) ?_⟩
  refine ldI (x := ⟨8, 4, 1, 0, 0⟩) (upd_same _ _ _) (aRet_of (Sub.refl _) (hK _ _ ?_))
  exact (hu.upd_fresh _ hn)
theorem bStore {K : Cont} (hK : ∀ g' n', Sub g g' → K (.agg (encI ⟨9, 4, 1, 0, 0⟩).toArray) g' n') : AC bellowsref25_store_id [] g n K := by
  refine ACalls.fold X0_mono ?_
  rw [← bellowsref25_store_eq]
  simp only [bellowsref25_store]
  intro hn
  have hu : Sub g (upd g n (some (.cells [(.int .i64 0), (.int .i64 0), (.int .i64 0), (.int .i64 0), (.int .i64 0)] .exact))) := (Sub.refl g).new hn _
  refine ⟨rfl, by simp, rfl, by simp, rfl, by simp, ?_⟩
  refine ⟨rfl, kStN_of (upd_same _ _ _) rfl (by simp) (encI_cell ⟨9, 4, 1, 0, 0⟩) ?_⟩
  refine ldI (x := ⟨9, 4, 1, 0, 0⟩) (upd_same _ _ _) (aRet_of (Sub.refl _) (hK _ _ ?_))
  exact (hu.upd_fresh _ hn)
theorem bTell {a : Int} {K : Cont} (hK : ∀ g' n', Sub g g' → K (.agg (encI ⟨21, a, 0, 0, 0⟩).toArray) g' n') : AC bellowsref25_tell_id [.int .i64 a] g n K := by
  refine ACalls.fold X0_mono ?_
  rw [← bellowsref25_tell_eq]
  simp only [bellowsref25_tell]
  intro hn
  have hu : Sub g (upd g n (some (.cells [(.int .i64 0), (.int .i64 0), (.int .i64 0), (.int .i64 0), (.int .i64 0)] .exact))) := (Sub.refl g).new hn _
  refine ⟨rfl, by simp, rfl, by simp, ?_⟩
  refine ⟨rfl, kStN_of (upd_same _ _ _) rfl (by simp) (encI_cell ⟨21, a, 0, 0, 0⟩) ?_⟩
  refine ldI (x := ⟨21, a, 0, 0, 0⟩) (upd_same _ _ _) (aRet_of (Sub.refl _) (hK _ _ ?_))
  exact (hu.upd_fresh _ hn)
theorem bLi {r x : Int} {K : Cont} (hK : ∀ g' n', Sub g g' → K (.agg (encI (liI r x)).toArray) g' n') : AC bellowsref25_li_id [.int .i64 r, .int .u64 x] g n K := by
  refine ACalls.fold X0_mono ?_
  rw [← bellowsref25_li_eq]
  simp only [bellowsref25_li]
  intro hn
  have hu : Sub g (upd g n (some (.cells [(.int .i64 0), (.int .i64 0), (.int .i64 0), (.int .i64 0), (.int .i64 0)] .exact))) := (Sub.refl g).new hn _
  refine rLi fun g2 n2 h2 => ?_
  refine ⟨rfl, kStN_of (h2.live (upd_same _ _ _)) rfl (by simp [encI_len]) (encI_cell (liI r x)) ?_⟩
  refine ldI (x := liI r x) (upd_same _ _ _) (aRet_of (Sub.refl _) (hK _ _ ?_))
  exact (hu.trans h2).upd_fresh _ hn
end Go.Proofs.YtecojalpbppfeaaGreat.Gen

namespace Go.Proofs.YtecojalpbppfeaaGreat.Gen
open Go Go.Proofs.YtecojalpbppfeaaGreat.Abs Go.RowKit
variable {g : G} {n : Nat}
structure OpT where
  kind : Int
  w : Int
  v : Int
  deriving DecidableEq
def encO (o : OpT) : List Value := [.int .i64 o.kind, .int .i64 o.w, .int .u64 o.v]
theorem encO_len (o : OpT) : (encO o).length = 3 := rfl
theorem encO_cell (o : OpT) : ∀ v ∈ encO o, isCell v = true := by simp [encO, isCell]
structure TxT where
  ops : List OpT
  abort : Bool
def GoodO (o : OpT) : Prop := 1 ≤ o.kind ∧ o.kind ≤ 4 ∧ o.v < 2147483648 ∧ (o.kind ≠ 1 ∨ o.v = 0) ∧ (o.kind ≠ 4 ∨ o.v ≠ 0)
instance (o : OpT) : Decidable (GoodO o) := by unfold GoodO; infer_instance
def GoodT (l : List OpT) : Prop := l.length ≤ 16 ∧ ∀ o ∈ l, GoodO o
instance (l : List OpT) : Decidable (GoodT l) := by unfold GoodT; infer_instance
theorem goodO_spec {o : OpT} {K : Cont} (hK : ∀ g' n', Sub g g' → K (.bool (decide (GoodO o))) g' n') : AC client_good_id [.agg (encO o).toArray] g n K := by
  refine ACalls.fold X0_mono ?_
  rw [← client_good_eq]
  simp only [client_good, kAgg_a]
  intro hn
  have hu := (Sub.refl g).new hn (some (.cells (encO o) .exact))
  have hb : upd g n (some (.cells (encO o) .exact)) n = some (.cells (encO o) .exact) := upd_same _ _ _
  generalize upd g n (some (.cells (encO o) .exact)) = g1 at hu hb
  have hK1 : ∀ m, K (.bool (decide (GoodO o))) g1 m := fun m => hK _ _ hu
  repeat' first
    | (refine kLd_of hb rfl ?_)
    | (refine kSplit_d (fun _ => ?_) (fun _ => ?_))
    | (refine aRet_of (Sub.refl _) (leafB hK1 ?_))
    | (simp only [kBin_geq, kBin_leq, kBin_lss, kBin_gtr, kBin_eql, kBin_neq])
  all_goals (rw [Bool.eq_iff_iff]; simp only [decide_eq_true_eq, reduceCtorEq, false_iff, true_iff, Bool.false_eq_true]; unfold GoodO; omega)
/-- an op is copied into a block of its own -/
theorem copyO {o : OpT} {z : List Value} {K : G → Prop} (hn : g n = none) (hz : z.length = 3) (k : Sub g (upd g n (some (.cells (encO o) .exact))) → upd g n (some (.cells (encO o) .exact)) n = some (.cells (encO o) .exact) → K (upd g n (some (.cells (encO o) .exact)))) :
    kAgg (.agg (encO o).toArray) fun cs => cs.length = 3 ∧ kStN (upd g n (some (.cells z .exact))) n 0 cs K := by
  refine ⟨rfl, kStN_of (upd_same _ _ _) rfl (by rw [hz]; simp [encO]) (encO_cell o) ?_⟩
  have e1 : splice z 0 (encO o).toArray.toList = encO o := by unfold splice; simp [encO, hz]
  rw [e1, upd_upd]
  exact k ((Sub.refl g).new hn _) (upd_same _ _ _)
theorem ldO {l : Nat} {x : OpT} {bk : BK} {K : List Value → Prop} (h : g l = some (.cells (encO x) bk)) (k : K (encO x)) : kLdN g l 0 3 K := by
  refine kLdN_of h (by rw [encO_len]; decide) ?_
  rw [List.drop_zero, List.take_of_length_le (by rw [encO_len]; exact Nat.le_refl _)]; exact k
theorem TGood_spec {v : Value} {b : Bool} {xs : List OpT} (hv : Sl encO 3 g v xs) (hlen : xs.length < 1000000) {K : Cont} (hK : ∀ g' n', Sub g g' → K (.bool (decide (GoodT xs))) g' n') : AC client_Good_id [.agg ([v, .bool b] : List Value).toArray] g n K := by
  refine ACalls.fold X0_mono ?_
  rw [← client_Good_eq]
  simp only [client_Good, kAgg_a]
  intro hn
  have hu := (Sub.refl g).new hn (some (.cells [v, .bool b] .exact))
  have hb : upd g n (some (.cells [v, .bool b] .exact)) n = some (.cells [v, .bool b] .exact) := upd_same _ _ _
  generalize upd g n (some (.cells [v, .bool b] .exact)) = g1 at hu hb
  refine kLd_of hb rfl ((hv.mono hu).len ?_)
  refine lfp_ind (m := xs.length) (Inv := fun m t g2 n2 => ∃ j : Nat, m + j = xs.length ∧ Sub g1 g2 ∧ t 6 = v ∧ t 7 = .int .i64 (xs.length : Nat) ∧ t 8 = .int .i64 (j : Nat) ∧ t 1 = ptr n 0 ∧ ∀ o ∈ xs.take j, GoodO o) ?_ ⟨0, by omega, Sub.refl _, rfl, rfl, rfl, rfl, by simp⟩
  rintro I m t g2 n2 ih ⟨j, hm, hs, t6, t7, t8, t1, hall⟩
  simp only [client_Good_l1, t6, t7, t8, kBin_lss]
  refine kSplit_d (fun hj => ?_) (fun hj => ?_)
  · have hj : j < xs.length := by omega
    have hget : xs[j]? = some xs[j] := List.getElem?_eq_getElem hj
    generalize xs[j] = o at hget
    refine ((hv.mono hu).mono hs).idx encO_len hget (fun l p ha => ?_)
    simp only [kPtr_p]
    refine ha.ldN rfl (fun hn2 => copyO hn2 rfl fun s3 hb3 => ldO hb3 (goodO_spec fun g4 n4 s4 => ?_))
    have s24 := (hs.trans s3).trans s4
    rw [kUn_not]
    by_cases hO : GoodO o
    · refine kSplit_f (by simp [hO]) ?_
      rw [kBin_add, wrap64_of (by omega) (by omega), show ((j : Nat) : Int) + 1 = ((j + 1 : Nat) : Int) by omega]
      refine ih (m - 1) _ _ _ (by omega) ⟨j + 1, by omega, s24, t6, t7, rfl, t1, fun x hx => ?_⟩
      rw [take_add hget] at hx
      rcases List.mem_append.1 hx with hx | hx
      · exact hall x hx
      · simp at hx; subst hx; exact hO
    · refine kSplit_t (by simp [hO]) (aRet_of (Sub.refl _) ?_)
      have := hK g4 n4 (hu.trans s24)
      rw [decide_eq_false (fun h : GoodT xs => hO (h.2 _ (List.mem_of_getElem? hget)))] at this
      exact this
  · simp only [client_Good_j2]
    show kPtr (t 1) _
    rw [t1]
    simp only [kPtr_p]
    refine kLd_of (hs.live hb) rfl (((hv.mono hu).mono hs).len ?_)
    rw [kBin_leq]
    refine aRet_of (Sub.refl _) ?_
    have := hK g2 n2 (hu.trans hs)
    rw [List.take_of_length_le (by omega)] at hall
    have e : decide (GoodT xs) = decide ((xs.length : Int) ≤ 16) := by
      rw [Bool.eq_iff_iff]; simp only [decide_eq_true_eq]
      exact ⟨fun h => by have := h.1; omega, fun h => ⟨by omega, hall⟩⟩
    rw [e] at this; exact this
theorem rTGood_spec {v : Value} {b : Bool} {xs : List OpT} (hv : Sl encO 3 g v xs) (hlen : xs.length < 1000000) {K : Cont} (hK : ∀ g' n', Sub g g' → K (.bool (decide (GoodT xs))) g' n') : AC bellowsref25_Good_id [.agg ([v, .bool b] : List Value).toArray] g n K := by
  refine ACalls.fold X0_mono ?_
  rw [← bellowsref25_Good_eq]
  simp only [bellowsref25_Good, kAgg_a]
  intro hn
  have hu := (Sub.refl g).new hn (some (.cells [v, .bool b] .exact))
  have hb : upd g n (some (.cells [v, .bool b] .exact)) n = some (.cells [v, .bool b] .exact) := upd_same _ _ _
  generalize upd g n (some (.cells [v, .bool b] .exact)) = g1 at hu hb
  refine kLd_of hb rfl ((hv.mono hu).len ?_)
  rw [kBin_gtr]
  refine kSplit_d (fun h16 => ?_) (fun h16 => ?_)
  · refine aRet_of (Sub.refl _) ?_
    have := hK g1 (n + 1) hu
    rw [decide_eq_false (fun h : GoodT xs => by have := h.1; omega)] at this
    exact this
  refine lfp_ind (m := xs.length) (Inv := fun m t g2 n2 => ∃ j : Nat, m + j = xs.length ∧ Sub g1 g2 ∧ t 3 = .int .i64 (j : Nat) ∧ t 1 = ptr n 0 ∧ ∀ o ∈ xs.take j, GoodO o) ?_ ⟨0, by omega, Sub.refl _, rfl, rfl, by simp⟩
  rintro I m t g2 n2 ih ⟨j, hm, hs, t3, t1, hall⟩
  simp only [bellowsref25_Good_l1, t3, t1, kPtr_p]
  refine kLd_of (hs.live hb) rfl (((hv.mono hu).mono hs).len ?_)
  rw [kBin_lss]
  refine kSplit_d (fun hj => ?_) (fun hj => ?_)
  · have hj : j < xs.length := by omega
    have hget : xs[j]? = some xs[j] := List.getElem?_eq_getElem hj
    generalize xs[j] = o at hget
    refine kLd_of (hs.live hb) rfl (((hv.mono hu).mono hs).idx encO_len hget (fun l p ha => ?_))
    simp only [kPtr_p]
    refine ha.ldN rfl (fun hn2 => copyO hn2 rfl fun s3 hb3 => ?_)
    have s23 := hs.trans s3
    have yes : GoodO o → ∀ t' : Env, t' 3 = .int .i64 ((j + 1 : Nat) : Int) → t' 1 = ptr n 0 → I t' (upd g2 n2 (some (.cells (encO o) .exact))) (n2 + 1) := fun hO t' q3 q1 =>
      ih (m - 1) _ _ _ (by omega) ⟨j + 1, by omega, s23, q3, q1, fun x hx => by
        rw [take_add hget] at hx
        rcases List.mem_append.1 hx with hx | hx
        · exact hall x hx
        · simp at hx; subst hx; exact hO⟩
    have no : ¬ GoodO o → ∀ n', K (.bool false) (upd g2 n2 (some (.cells (encO o) .exact))) n' := fun hO n' => by
      have := hK _ n' (hu.trans s23)
      rw [decide_eq_false (fun h : GoodT xs => hO (h.2 _ (List.mem_of_getElem? hget)))] at this
      exact this
    have ej : IntKind.i64.wrap ((j : Int) + 1) = ((j + 1 : Nat) : Int) := by rw [wrap64_of (by omega) (by omega)]; omega
    generalize upd g2 n2 (some (.cells (encO o) .exact)) = g3 at hb3 yes no
    repeat' first
      | (refine kLd_of hb3 rfl ?_)
      | (refine kSplit_d (fun _ => ?_) (fun _ => ?_))
      | (refine aRet_of (Sub.refl _) (no ?_ _))
      | (rw [kBin_add, ej]; refine yes ?_ _ rfl t1)
      | (simp only [kBin_geq, kBin_leq, kBin_lss, kBin_gtr, kBin_eql, kBin_neq])
    all_goals (unfold GoodO; omega)
  · refine aRet_of (Sub.refl _) ?_
    have := hK g2 n2 (hu.trans hs)
    rw [List.take_of_length_le (by omega)] at hall
    rw [decide_eq_true (show GoodT xs from ⟨by omega, hall⟩)] at this; exact this
end Go.Proofs.YtecojalpbppfeaaGreat.Gen

namespace Go.Proofs.YtecojalpbppfeaaGreat.Gen
open Go Go.Proofs.YtecojalpbppfeaaGreat.Abs Go.RowKit
variable {g : G} {n : Nat}
/-! ## the writer -/
def wCells (lb : Nat) (h : Hp) (fu ba en : Int) : List Value := [ptr lb 0] ++ encH h ++ [.int .i64 fu, .int .i64 ba, .int .i64 en]
def ldI1 : Ins := ⟨8, 4, 1, 0, 0⟩
def stI1 : Ins := ⟨9, 4, 1, 0, 0⟩
def tellI (r : Int) : Ins := ⟨21, r, 0, 0, 0⟩
def jmpI : Ins := ⟨17, 0, 0, 0, 0⟩
def atI (h : Hp) (w : Int) : Ins := liI 1 (wordH h w)
def readB (h : Hp) (o : OpT) (B : Bd) : Bd := B.add [atI h o.w, ldI1, tellI 4]
def writeB (h : Hp) (fu : Int) (o : OpT) (B : Bd) : Bd := (noteB h o.w fu B).add [atI h o.w, liI 4 o.v, stI1]
def addB (h : Hp) (fu : Int) (o : OpT) (B : Bd) : Bd := (noteB h o.w fu B).add [atI h o.w, ldI1, liI 5 o.v, ⟨2, 4, 4, 5, 0⟩, stI1, tellI 4]
def takeO (h : Hp) (fu : Int) (o : OpT) (B : Bd) : Bd :=
  (((((noteB h o.w fu ((B.mark.mark.add [atI h o.w, ldI1, liI 0 0]).jump ⟨19, 4, 0, 0, 0⟩ B.marks.length)).add [atI h o.w, liI 4 o.v, stI1, liI 4 1, tellI 4]).jump jmpI B.mark.marks.length).here B.marks.length).add [liI 4 0, tellI 4]).here B.mark.marks.length
variable {gK : G} {fp fp' : List Nat} {lb lw k m : Nat} {h : Hp} {fu ba en : Int} {B B' : Bd} {o : OpT}
theorem Sg.back {H : G → List Nat → Nat → Bd → Prop} {gK2 : G} (s : Sg H lb gK2 g fp B k m) (o : Sub gK gK2) : Sg H lb gK g fp B k m := ⟨s.b, o.trans s.hs, fun l hl => o.none (s.hd l hl), s.bk⟩
theorem Sg.up {H : G → List Nat → Nat → Bd → Prop} {k' m' : Nat} (s : Sg H lb gK g fp B k m) (h1 : k ≤ k') (h2 : m ≤ m') : Sg H lb gK g fp B k' m' := ⟨s.b, s.hs, s.hd, s.bk.up h1 h2⟩
theorem ldW {l : Nat} {K : List Value → Prop} (hl : g l = some (.cells (wCells lb h fu ba en) .exact)) (kk : K (encH h)) : kLdN g l (0 + 1) 9 K :=
  kLdN_of hl (by simp [wCells, encH_len]) kk
theorem wLi {r x : Int} (s : Sg BdH lb gK g fp B k m) (hw : gK lw = some (.cells (wCells lb h fu ba en) .exact)) (hk : k + 1 ≤ 1000000) {K : Cont} (hK : ∀ v g' n' fp', Sg BdH lb gK g' fp' (B.add [liI r x]) (k + 1) m → K v g' n') : AC client_writer_li_id [ptr lw 0, .int .i64 r, .int .u64 x] g n K := by
  refine ACalls.fold X0_mono ?_
  rw [← client_writer_li_eq]
  simp only [client_writer_li, kNil_p, kPtr_p, kConv_i]
  refine kLd_of (s.hs.live hw) rfl ?_
  refine ⟨rfl, by simp, rfl, by simp, rfl, by simp, ?_⟩
  exact aLat1 (liI r x) s (by simp [liI]) hk fun _ _ v g' n' fp' s' => aRet_of (Sub.refl _) (hK _ _ _ _ s')
theorem wLd (s : Sg BdH lb gK g fp B k m) (hw : gK lw = some (.cells (wCells lb h fu ba en) .exact)) (hk : k + 1 ≤ 1000000) {K : Cont} (hK : ∀ v g' n' fp', Sg BdH lb gK g' fp' (B.add [ldI1]) (k + 1) m → K v g' n') : AC client_writer_ld_id [ptr lw 0] g n K := by
  refine ACalls.fold X0_mono ?_
  rw [← client_writer_ld_eq]
  simp only [client_writer_ld, kNil_p, kPtr_p]
  refine kLd_of (s.hs.live hw) rfl ?_
  refine ⟨rfl, by simp, rfl, by simp, rfl, by simp, ?_⟩
  exact aLat1 ldI1 s (by simp [ldI1]) hk fun _ _ v g' n' fp' s' => aRet_of (Sub.refl _) (hK _ _ _ _ s')
theorem wSt (s : Sg BdH lb gK g fp B k m) (hw : gK lw = some (.cells (wCells lb h fu ba en) .exact)) (hk : k + 1 ≤ 1000000) {K : Cont} (hK : ∀ v g' n' fp', Sg BdH lb gK g' fp' (B.add [stI1]) (k + 1) m → K v g' n') : AC client_writer_st_id [ptr lw 0] g n K := by
  refine ACalls.fold X0_mono ?_
  rw [← client_writer_st_eq]
  simp only [client_writer_st, kNil_p, kPtr_p]
  refine kLd_of (s.hs.live hw) rfl ?_
  refine ⟨rfl, by simp, rfl, by simp, rfl, by simp, ?_⟩
  exact aLat1 stI1 s (by simp [stI1]) hk fun _ _ v g' n' fp' s' => aRet_of (Sub.refl _) (hK _ _ _ _ s')
theorem wTell {r : Int} (s : Sg BdH lb gK g fp B k m) (hw : gK lw = some (.cells (wCells lb h fu ba en) .exact)) (hk : k + 1 ≤ 1000000) {K : Cont} (hK : ∀ v g' n' fp', Sg BdH lb gK g' fp' (B.add [tellI r]) (k + 1) m → K v g' n') : AC client_writer_tell_id [ptr lw 0, .int .i64 r] g n K := by
  refine ACalls.fold X0_mono ?_
  rw [← client_writer_tell_eq]
  simp only [client_writer_tell, kNil_p, kPtr_p]
  refine kLd_of (s.hs.live hw) rfl ?_
  refine ⟨rfl, by simp, rfl, by simp, ?_⟩
  exact aLat1 (tellI r) s (by simp [tellI]) hk fun _ _ v g' n' fp' s' => aRet_of (Sub.refl _) (hK _ _ _ _ s')
theorem wJump {x : Int} (s : Sg BdH lb gK g fp B k m) (hw : gK lw = some (.cells (wCells lb h fu ba en) .exact)) (hk : k < 1000000) {K : Cont} (hK : ∀ v g' n' fp', Sg BdH lb gK g' fp' (B.jump jmpI x) (k + 1) m → K v g' n') : AC client_writer_jump_id [ptr lw 0, .int .i64 x] g n K := by
  refine ACalls.fold X0_mono ?_
  rw [← client_writer_jump_eq]
  simp only [client_writer_jump, kNil_p, kPtr_p]
  refine kLd_of (s.hs.live hw) rfl (fillOp 17 ?_)
  exact aJump s hk fun v g' n' fp' s' => aRet_of (Sub.refl _) (hK _ _ _ _ s')
theorem wAt (s : Sg BdH lb gK g fp B k m) (hw : gK lw = some (.cells (wCells lb h fu ba en) .exact)) (hk : k + 1 ≤ 1000000) {K : Cont} (hK : ∀ v g' n' fp', Sg BdH lb gK g' fp' (B.add [atI h o.w]) (k + 1) m → K v g' n') : AC client_writer_at_id [ptr lw 0, .agg (encO o).toArray] g n K := by
  refine ACalls.fold X0_mono ?_
  rw [← client_writer_at_eq]
  simp only [client_writer_at, kAgg_a, kNil_p, kPtr_p]
  intro hn
  have hs := (Sub.refl g).new hn (some (.cells (encO o) .exact))
  have hb : upd g n (some (.cells (encO o) .exact)) n = some (.cells (encO o) .exact) := upd_same _ _ _
  generalize upd g n (some (.cells (encO o) .exact)) = g1 at hs hb
  have s := s.sub hs
  refine ldW (s.hs.live hw) (kLd_of hb rfl (Word_spec fun _ _ hs => ?_))
  have s := s.sub hs
  exact wLi s hw hk fun v g' n' fp' s' => aRet_of (Sub.refl _) (hK _ _ _ _ s')
theorem wNote (s : Sg BdH lb gK g fp B k m) (hw : gK lw = some (.cells (wCells lb h fu ba en) .exact)) (hk : k + 18 ≤ 1000000) {K : Cont} (hK : ∀ v g' n' fp', Sg BdH lb gK g' fp' (noteB h o.w fu B) (k + 18) m → K v g' n') : AC client_writer_note_id [ptr lw 0, .agg (encO o).toArray] g n K := by
  refine ACalls.fold X0_mono ?_
  rw [← client_writer_note_eq]
  simp only [client_writer_note, kAgg_a, kNil_p, kPtr_p]
  intro hn
  have hs := (Sub.refl g).new hn (some (.cells (encO o) .exact))
  have hb : upd g n (some (.cells (encO o) .exact)) n = some (.cells (encO o) .exact) := upd_same _ _ _
  generalize upd g n (some (.cells (encO o) .exact)) = g1 at hs hb
  have s := s.sub hs
  have hw1 := s.hs.live hw
  refine kLd_of hw1 rfl (ldW hw1 (kLd_of hb rfl (kLd_of hw1 rfl (Note_spec s.b s.bk hk fun g' n' fp' hB u hk' => ?_))))
  exact aRet_of (Sub.refl _) (hK _ _ _ _ (s.move hB u hk'))
/-- an op's copy is kept, too -/
theorem Sg.copy {H : G → List Nat → Nat → Bd → Prop} {b : Blk} {g1 : G} (s : Sg H lb gK g1 fp B k m) (hb : g1 n = some b) (hn : n ∉ fp) (hw : gK lw = some (.cells (wCells lb h fu ba en) .exact)) :
    ∃ gK2, Sub gK gK2 ∧ gK2 n = some b ∧ gK2 lw = some (.cells (wCells lb h fu ba en) .exact) ∧ Sg H lb gK2 g1 fp B k m :=
  ⟨hideF g1 fp, s.old, hideF_some hb hn, s.old.live hw, s.rek⟩
theorem notIn {g : G} {n : Nat} {fp : List Nat} {lb : Nat} {B : Bd} (hB : BdH g fp lb B) (hn : g n = none) : n ∉ fp := fun hm => by obtain ⟨b, hb⟩ := hB.live _ hm; rw [hn] at hb; cases hb
theorem rnotIn {g : G} {n : Nat} {fp : List Nat} {lb : Nat} {B : Bd} (hB : RbH g fp lb B) (hn : g n = none) : n ∉ fp := fun hm => by obtain ⟨b, hb⟩ := hB.live _ hm; rw [hn] at hb; cases hb
theorem wRead (s : Sg BdH lb gK g fp B k m) (hw : gK lw = some (.cells (wCells lb h fu ba en) .exact)) (hk : k + 3 ≤ 1000000) {K : Cont} (hK : ∀ v g' n' fp', Sg BdH lb gK g' fp' (readB h o B) (k + 3) m → K v g' n') : AC client_writer_read_id [ptr lw 0, .agg (encO o).toArray] g n K := by
  refine ACalls.fold X0_mono ?_
  rw [← client_writer_read_eq]
  simp only [client_writer_read, kAgg_a]
  intro hn
  have hs := (Sub.refl g).new hn (some (.cells (encO o) .exact))
  have hb : upd g n (some (.cells (encO o) .exact)) n = some (.cells (encO o) .exact) := upd_same _ _ _
  generalize upd g n (some (.cells (encO o) .exact)) = g1 at hs hb
  have s := s.sub hs
  refine ldO hb (wAt s hw (by omega) fun _ _ _ _ s => wLd s hw (by omega) fun _ _ _ _ s => wTell s hw (by omega) fun _ _ _ fpZ s => aRet_of (Sub.refl _) (hK _ _ _ fpZ ?_))
  simpa only [readB, Bd.add_add, List.cons_append, List.nil_append] using s
theorem wWrite (s : Sg BdH lb gK g fp B k m) (hw : gK lw = some (.cells (wCells lb h fu ba en) .exact)) (hk : k + 21 ≤ 1000000) {K : Cont} (hK : ∀ v g' n' fp', Sg BdH lb gK g' fp' (writeB h fu o B) (k + 21) m → K v g' n') : AC client_writer_write_id [ptr lw 0, .agg (encO o).toArray] g n K := by
  refine ACalls.fold X0_mono ?_
  rw [← client_writer_write_eq]
  simp only [client_writer_write, kAgg_a]
  intro hn
  have hs := (Sub.refl g).new hn (some (.cells (encO o) .exact))
  have hb : upd g n (some (.cells (encO o) .exact)) n = some (.cells (encO o) .exact) := upd_same _ _ _
  generalize upd g n (some (.cells (encO o) .exact)) = g1 at hs hb
  obtain ⟨gK2, so, hb2, hw2, s⟩ := (s.sub hs).copy hb (notIn s.b hn) hw
  refine ldO hb (wNote s hw2 (by omega) fun _ _ _ _ s => ?_)
  refine ldO (s.hs.live hb2) (wAt s hw2 (by omega) fun _ _ _ _ s => ?_)
  refine kLd_of (s.hs.live hb2) rfl (wLi s hw2 (by omega) fun _ _ _ _ s => wSt s hw2 (by omega) fun _ _ _ fpZ s => aRet_of (Sub.refl _) (hK _ _ _ fpZ ?_))
  have s := s.back so
  simpa only [writeB, Bd.add_add, List.cons_append, List.nil_append] using s
theorem wAdd (s : Sg BdH lb gK g fp B k m) (hw : gK lw = some (.cells (wCells lb h fu ba en) .exact)) (hk : k + 24 ≤ 1000000) {K : Cont} (hK : ∀ v g' n' fp', Sg BdH lb gK g' fp' (addB h fu o B) (k + 24) m → K v g' n') : AC client_writer_add_id [ptr lw 0, .agg (encO o).toArray] g n K := by
  refine ACalls.fold X0_mono ?_
  rw [← client_writer_add_eq]
  simp only [client_writer_add, kAgg_a, kNil_p, kPtr_p]
  intro hn
  have hs := (Sub.refl g).new hn (some (.cells (encO o) .exact))
  have hb : upd g n (some (.cells (encO o) .exact)) n = some (.cells (encO o) .exact) := upd_same _ _ _
  generalize upd g n (some (.cells (encO o) .exact)) = g1 at hs hb
  obtain ⟨gK2, so, hb2, hw2, s⟩ := (s.sub hs).copy hb (notIn s.b hn) hw
  refine ldO hb (wNote s hw2 (by omega) fun _ _ _ _ s => ?_)
  refine ldO (s.hs.live hb2) (wAt s hw2 (by omega) fun _ _ _ _ s => wLd s hw2 (by omega) fun _ _ _ _ s => ?_)
  refine kLd_of (s.hs.live hb2) rfl (wLi s hw2 (by omega) fun _ _ _ _ s => ?_)
  refine kLd_of (s.hs.live hw2) rfl ?_
  refine ⟨rfl, by simp, rfl, by simp, rfl, by simp, rfl, by simp, ?_⟩
  refine aLat1 ⟨2, 4, 4, 5, 0⟩ s (by simp) (by omega) fun _ _ _ _ _ _ s => ?_
  refine wSt s hw2 (by omega) fun _ _ _ _ s => wTell s hw2 (by omega) fun _ _ _ fpZ s => aRet_of (Sub.refl _) (hK _ _ _ fpZ ?_)
  have s := s.back so
  simpa only [addB, Bd.add_add, List.cons_append, List.nil_append] using s
theorem wTake (s : Sg BdH lb gK g fp B k m) (hw : gK lw = some (.cells (wCells lb h fu ba en) .exact)) (hk : k + 30 ≤ 1000000) (hm : m + 2 ≤ 1000000) {K : Cont} (hK : ∀ v g' n' fp', Sg BdH lb gK g' fp' (takeO h fu o B) (k + 30) (m + 2) → K v g' n') : AC client_writer_take_id [ptr lw 0, .agg (encO o).toArray] g n K := by
  refine ACalls.fold X0_mono ?_
  rw [← client_writer_take_eq]
  simp only [client_writer_take, kAgg_a, kNil_p, kPtr_p]
  intro hn
  have hs := (Sub.refl g).new hn (some (.cells (encO o) .exact))
  have hb : upd g n (some (.cells (encO o) .exact)) n = some (.cells (encO o) .exact) := upd_same _ _ _
  generalize upd g n (some (.cells (encO o) .exact)) = g1 at hs hb
  obtain ⟨gK2, so, hb2, hw2, s⟩ := (s.sub hs).copy hb (notIn s.b hn) hw
  have hwg := s.hs.live hw2
  refine kLd_of hwg rfl (kLd_of hwg rfl (aMark s (by omega) fun _ _ _ s => ⟨(s.hs.live hw2).trans hwg.symm, aMark s (by omega) fun _ _ _ s => ?_⟩))
  refine ldO (s.hs.live hb2) (wAt s hw2 (by omega) fun _ _ _ _ s => wLd s hw2 (by omega) fun _ _ _ _ s => wLi s hw2 (by omega) fun _ _ _ _ s => ?_)
  refine kLd_of (s.hs.live hw2) rfl ?_
  refine fillI ⟨19, 4, 0, 0, 0⟩ _ rfl rfl rfl (aJump s (by omega) fun _ _ _ _ s => ?_)
  refine ldO (s.hs.live hb2) (wNote s hw2 (by omega) fun _ _ _ _ s => ?_)
  refine ldO (s.hs.live hb2) (wAt s hw2 (by omega) fun _ _ _ _ s => ?_)
  refine kLd_of (s.hs.live hb2) rfl (wLi s hw2 (by omega) fun _ _ _ _ s => wSt s hw2 (by omega) fun _ _ _ _ s => wLi s hw2 (by omega) fun _ _ _ _ s => wTell s hw2 (by omega) fun _ _ _ _ s => wJump s hw2 (by omega) fun _ _ _ _ s => ?_)
  refine kLd_of (s.hs.live hw2) rfl (aHere s fun _ _ _ _ s => wLi s hw2 (by omega) fun _ _ _ _ s => wTell s hw2 (by omega) fun _ _ _ _ s => ?_)
  refine kLd_of (s.hs.live hw2) rfl (aHere s fun _ _ _ fpZ s => aRet_of (Sub.refl _) (hK _ _ _ fpZ ?_))
  have s := s.back so
  simpa only [takeO, Bd.add_add, List.cons_append, List.nil_append] using s
end Go.Proofs.YtecojalpbppfeaaGreat.Gen

namespace Go.Proofs.YtecojalpbppfeaaGreat.Gen
open Go Go.Proofs.YtecojalpbppfeaaGreat.Abs Go.RowKit
variable {g : G} {n : Nat}
variable {gK : G} {fp fp' : List Nat} {lb lw k m : Nat} {h : Hp} {fu ba en : Int} {B B' : Bd} {o : OpT}
/-! ## what ops do -/
def doesV : List Value := [.nilFunc, .func (.func client_writer_read_id) #[] #[], .func (.func client_writer_write_id) #[] #[], .func (.func client_writer_add_id) #[] #[], .func (.func client_writer_take_id) #[] #[]]
theorem Does_spec {K : Cont} (hK : ∀ g' n', Sub g g' → K (.agg doesV.toArray) g' n') : AC client_does_id [] g n K := by
  refine ACalls.fold X0_mono ?_
  rw [← client_does_eq]
  simp only [client_does, kAgg_a]
  intro hn
  have hu : Sub g (upd g n (some (.cells [.nilFunc, .nilFunc, .nilFunc, .nilFunc, .nilFunc] .exact))) := (Sub.refl g).new hn _
  refine ⟨rfl, by simp, rfl, by simp, rfl, by simp, rfl, by simp, ?_⟩
  refine ⟨rfl, kStN_of (upd_same _ _ _) rfl (by simp) (by simp [isCell]) ?_⟩
  refine kLdN_of (upd_same _ _ _) (by simp [splice]) (aRet_of (Sub.refl _) (hK _ _ ?_))
  exact (hu.upd_fresh _ hn)
def doB (h : Hp) (fu : Int) (o : OpT) (B : Bd) : Bd := if o.kind = 1 then readB h o B else if o.kind = 2 then writeB h fu o B else if o.kind = 3 then addB h fu o B else takeO h fu o B
theorem wDo (h1 : 1 ≤ o.kind) (h4 : o.kind ≤ 4) (s : Sg BdH lb gK g fp B k m) (hw : gK lw = some (.cells (wCells lb h fu ba en) .exact)) (hk : k + 30 ≤ 1000000) (hm : m + 2 ≤ 1000000) {K : Value → Value → G → Nat → Prop}
    (hK : ∀ f v g' n' fp', Sg BdH lb gK g' fp' (doB h fu o B) (k + 30) (m + 2) → K f v g' n') :
    kIdx (.agg doesV.toArray) (.int .i64 o.kind) 5 1 none fun f => kCall AC f [ptr lw 0, .agg (encO o).toArray] g n fun v g' n' => K f v g' n' := by
  obtain ⟨kd, w, v⟩ := o
  simp only at h1 h4
  obtain rfl | rfl | rfl | rfl : kd = 1 ∨ kd = 2 ∨ kd = 3 ∨ kd = 4 := by omega
  · refine ⟨(show (0 : Int) ≤ 1 by decide), (show (1 : Int) < ((5 : Nat) : Int) by decide), ?_⟩
    show AC client_writer_read_id _ _ _ _
    refine wRead s hw (by omega) fun v' g' n' fp' s' => hK _ _ _ _ fp' ?_
    unfold doB; rw [if_pos rfl]
    exact s'.up (by omega) (by omega)
  · refine ⟨(show (0 : Int) ≤ 2 by decide), (show (2 : Int) < ((5 : Nat) : Int) by decide), ?_⟩
    show AC client_writer_write_id _ _ _ _
    refine wWrite s hw (by omega) fun v' g' n' fp' s' => hK _ _ _ _ fp' ?_
    unfold doB; rw [if_neg (show ¬ ((2 : Int) = 1) by omega), if_pos rfl]
    exact s'.up (by omega) (by omega)
  · refine ⟨(show (0 : Int) ≤ 3 by decide), (show (3 : Int) < ((5 : Nat) : Int) by decide), ?_⟩
    show AC client_writer_add_id _ _ _ _
    refine wAdd s hw (by omega) fun v' g' n' fp' s' => hK _ _ _ _ fp' ?_
    unfold doB; rw [if_neg (show ¬ ((3 : Int) = 1) by omega), if_neg (show ¬ ((3 : Int) = 2) by omega), if_pos rfl]
    exact s'.up (by omega) (by omega)
  · refine ⟨(show (0 : Int) ≤ 4 by decide), (show (4 : Int) < ((5 : Nat) : Int) by decide), ?_⟩
    show AC client_writer_take_id _ _ _ _
    refine wTake s hw (by omega) (by omega) fun v' g' n' fp' s' => hK _ _ _ _ fp' ?_
    unfold doB; rw [if_neg (show ¬ ((4 : Int) = 1) by omega), if_neg (show ¬ ((4 : Int) = 2) by omega), if_neg (show ¬ ((4 : Int) = 3) by omega)]
    exact s'
/-! ## a transaction -/
def inH (h : Hp) (o : OpT) : Bool := decide (0 ≤ o.w ∧ o.w < wordsH h)
def opB (h : Hp) (fu ba : Int) (B : Bd) (o : OpT) : Bd := if inH h o = true then doB h fu o B else (B.add [liI 5 103]).jump jmpI ba
def wsP (h : Hp) (l : List OpT) : List Int := (l.filter fun o => inH h o && decide (o.kind ≠ 1)).map (·.w)
def wsR (l : List OpT) : List Int := (l.filter fun o => decide (o.kind ≠ 1)).map (·.w)
def headB (B : Bd) : Bd := (takeB B.mark.mark.mark 0).add [liI 7 0]
def midB (h : Hp) (l : List OpT) (B : Bd) : Bd := l.foldl (opB h B.marks.length (B.mark.marks.length : Nat)) (headB B)
def tailB (h : Hp) (ab : Bool) (ws : List Int) (fu ba en : Int) (B : Bd) : Bd :=
  ((giveB ((backB h (((((if ab = true then (B.add [liI 5 104]).jump jmpI ba else ((commitB h ws B).add [liI 5 101]).jump jmpI en).here fu).add [liI 5 102]).here ba))).here en) 0).add [tellI 5])
def txB (h : Hp) (t : TxT) (B : Bd) : Bd := tailB h t.abort (wsP h t.ops) B.marks.length (B.mark.marks.length : Nat) (B.mark.mark.marks.length : Nat) (midB h t.ops B)
theorem wsP_take {l : List OpT} {j : Nat} {o : OpT} (ho : l[j]? = some o) : wsP h (l.take (j + 1)) = wsP h (l.take j) ++ (if inH h o = true ∧ o.kind ≠ 1 then [o.w] else []) := by
  rw [List.take_add_one, ho]
  simp only [wsP, List.filter_append, List.map_append, Option.toList_some, List.filter_cons, List.filter_nil, Bool.and_eq_true, decide_eq_true_eq]
  congr 1
  split <;> simp
theorem wsR_take {l : List OpT} {j : Nat} {o : OpT} (ho : l[j]? = some o) : wsR (l.take (j + 1)) = wsR (l.take j) ++ (if o.kind ≠ 1 then [o.w] else []) := by
  rw [List.take_add_one, ho]
  simp only [wsR, List.filter_append, List.map_append, Option.toList_some, List.filter_cons, List.filter_nil, decide_eq_true_eq]
  congr 1
  split <;> simp
theorem wsP_len (l : List OpT) : (wsP h l).length ≤ l.length := by unfold wsP; rw [List.length_map]; exact List.length_filter_le _ _
theorem wsR_len (l : List OpT) : (wsR l).length ≤ l.length := by unfold wsR; rw [List.length_map]; exact List.length_filter_le _ _
/-- words that are none are let go -/
theorem commit_ws (l : List OpT) (B : Bd) : commitB h (wsR l) B = commitB h (wsP h l) B := by
  unfold commitB
  split
  · rename_i hG
    have e : lineL h (wsR l) = lineL h (wsP h l) := by
      refine srt_eq _ _ (lineL_srt _ _) (lineL_srt _ _) fun x => ?_
      rw [mem_lineL, mem_lineL]
      have ew : wordsH h = 8 * h.hl := by unfold wordsH; rw [if_pos hG]
      simp only [keysW, wsR, wsP, inH, List.mem_map, List.mem_filter, decide_eq_true_eq, Bool.and_eq_true, ew]
      constructor
      · rintro ⟨w, ⟨⟨o, ⟨h1, h2⟩, rfl⟩, h3⟩, rfl⟩
        exact ⟨o.w, ⟨⟨o, ⟨h1, h3, h2⟩, rfl⟩, h3⟩, rfl⟩
      · rintro ⟨w, ⟨⟨o, ⟨h1, h2, h4⟩, rfl⟩, h3⟩, rfl⟩
        exact ⟨o.w, ⟨⟨o, ⟨h1, h4⟩, rfl⟩, h3⟩, rfl⟩
    rw [e]
  · rfl
theorem Sg.set {bb : Option Blk} (s : Sg BdH lb gK g fp B k m) (hK : gK lw = none) (hf : lw ∉ fp) : Sg BdH lb gK (upd g lw bb) fp B k m :=
  ⟨s.b.keep fun l b hl hm => by rw [upd_ne _ _ (fun e : l = lw => hf (e ▸ hm))]; exact hl, s.hs.upd_fresh _ hK, s.hd, s.bk⟩
end Go.Proofs.YtecojalpbppfeaaGreat.Gen

namespace Go.Proofs.YtecojalpbppfeaaGreat.Gen
open Go Go.Proofs.YtecojalpbppfeaaGreat.Abs Go.RowKit
variable {g : G} {n : Nat}
variable {gK : G} {fp fp' : List Nat} {lb k m : Nat} {h : Hp} {fu ba en : Int} {B B' : Bd} {o : OpT}
/-! ## the document's transaction -/
theorem noteB_bk {w f : Int} (hk : Bk k m B) (hk2 : k + 18 ≤ 1000000) : Bk (k + 18) m (noteB h w f B) := by
  unfold noteB
  split
  · have a1 := (hk.add (ys := [liI 0 (roomH h)]) (by simp [liI]) (by simp; omega)).jump ⟨18, 7, 0, 0, 0⟩ f (by simp; omega)
    have a2 := (a1.add (ys := entryL h) (by simp [entryL, liI]) (by simp [entryL]; omega)).add (ys := [liI 1 (wordH h w), ⟨9, 1, 6, 0, 0⟩, ⟨8, 4, 1, 0, 0⟩, ⟨9, 4, 6, 0, 8⟩, ⟨12, 0, 6, 0, 0⟩, ⟨15, 0, 0, 0, 0⟩]) (by simp [liI]) (by simp [entryL]; omega)
    exact a2.add (ys := [liI 0 1, ⟨2, 7, 7, 0, 0⟩, liI 6 (countH h), ⟨9, 7, 6, 0, 0⟩, ⟨12, 0, 6, 0, 0⟩, ⟨15, 0, 0, 0, 0⟩]) (by simp [liI]) (by simp [entryL]; omega)
  · exact hk.up (by omega) (Nat.le_refl _)
theorem bNote {w f : Int} (s : Sg RbH lb gK g fp B k m) (hk : k + 18 ≤ 1000000) {K : Cont} (hK : ∀ v g' n' fp', Sg RbH lb gK g' fp' (noteB h w f B) (k + 18) m → K v g' n') : AC bellowsref24_Note_id [ptr lb 0, .agg (encH h).toArray, .int .i64 w, .int .i64 f] g n K :=
  rNote_spec s.b s.bk hk fun g' n' fp' hB u => hK _ _ _ _ (s.move hB u (noteB_bk s.bk hk))
theorem rone_spec (s : Sg RbH lb gK g fp B k m) (hkd : 1 ≤ o.kind ∧ o.kind ≤ 4) (hk : k + 30 ≤ 1000000) (hm : m + 2 ≤ 1000000) {K : Cont}
    (hK : ∀ v g' n' fp', Sg RbH lb gK g' fp' (opB h fu ba B o) (k + 30) (m + 2) → K v g' n') : AC bellowsref25_one_id [ptr lb 0, .agg (encH h).toArray, .agg (encO o).toArray, .int .i64 fu, .int .i64 ba] g n K := by
  refine ACalls.fold X0_mono ?_
  rw [← bellowsref25_one_eq]
  simp only [bellowsref25_one, kAgg_a, kPtr_p]
  intro hn hn1
  have h1 := (Sub.refl g).new hn (some (.cells (encH h) .exact))
  have hbh : upd g n (some (.cells (encH h) .exact)) n = some (.cells (encH h) .exact) := upd_same _ _ _
  generalize upd g n (some (.cells (encH h) .exact)) = g1 at h1 hbh hn1
  have h2 := (Sub.refl g1).new hn1 (some (.cells (encO o) .exact))
  have hbo : upd g1 (n + 1) (some (.cells (encO o) .exact)) (n + 1) = some (.cells (encO o) .exact) := upd_same _ _ _
  have hbh := h2.live hbh
  generalize upd g1 (n + 1) (some (.cells (encO o) .exact)) = g2 at h2 hbh hbo
  have hnf := rnotIn s.b hn
  have hnf1 : n + 1 ∉ fp := rnotIn (s.b.mono h1) hn1
  have s := (s.rsub h1).rsub h2
  have so := s.old
  have hKh := hideF_some hbh hnf
  have hKo := hideF_some hbo hnf1
  have s := s.rek
  generalize hideF g2 fp = gA at so hKh hKo s
  have bad : inH h o = false → ∀ {g' : G} {n' : Nat}, Sg RbH lb gA g' fp B k m →
      AC bellowsref25_li_id [.int .i64 5, .int .u64 103] g' n' fun v24 g3 n24 => kFill (reps 1 [(.int .i64 0), (.int .i64 0), (.int .i64 0), (.int .i64 0), (.int .i64 0)]) [(0, (some 5), v24)] fun c25 => kNew c25 .exact g3 n24 fun l25 g4 n25 => AC bellowsref21_Builder_Add_id [ptr lb 0, (.slice (some ⟨l25, 0, none⟩) 1 1)] g4 n25 fun _ g5 n26 =>
        kFill [(.int .i64 0), (.int .i64 0), (.int .i64 0), (.int .i64 0), (.int .i64 0)] [(0, none, (.int .i64 17))] fun c28 => AC bellowsref21_Builder_Jump_id [ptr lb 0, (.agg c28.toArray), .int .i64 ba] g5 n26 fun _ g6 n30 => aRet K (.tuple #[]) g6 n30 := by
    intro hno g' n' s
    refine bLi fun _ _ hs => ?_
    have s := s.rsub hs
    refine bLit1 s (by simp [liI]) (by omega) fun _ _ _ _ _ _ s => fillOp 17 (bJump s (by omega) fun _ _ _ fpZ s => aRet_of (Sub.refl _) (hK _ _ _ fpZ ?_))
    unfold opB; rw [if_neg (by rw [hno]; decide)]
    exact (s.back so).up (by omega) (by omega)
  refine kLd_of hbo rfl ?_
  rw [kBin_lss]
  refine kSplit_d (fun h0 => bad (by unfold inH; rw [decide_eq_false_iff_not]; omega) s) (fun h0 => ?_)
  refine kLd_of hbo rfl (ldH hbh (rWds_spec fun g3 n3 h3 => ⟨(h3.live hbo).trans hbo.symm, ?_⟩))
  have s := s.rsub h3
  rw [kBin_geq]
  refine kSplit_d (fun h1 => bad (by unfold inH; rw [decide_eq_false_iff_not]; omega) s) (fun h1 => ?_)
  have hin : inH h o = true := by unfold inH; rw [decide_eq_true_eq]; omega
  refine ldH (s.hs.live hKh) (kLd_of (s.hs.live hKo) rfl (rWord_spec fun _ _ hs => ?_))
  have s := s.rsub hs
  refine bLi fun g5 n5 hs => ?_
  have s := s.rsub hs
  simp only [kAgg_a]
  refine fun hn5 => ⟨rfl, copyS hn5 rfl (encI_cell _) fun h6 hbi => ?_⟩
  have hnf5 := rnotIn s.b hn5
  have s := s.rsub h6
  generalize upd g5 n5 (some (.cells (encI (liI 1 (wordH h o.w))) .exact)) = g6 at s hbi
  have so2 := s.old
  have hKi := hideF_some hbi hnf5
  have hKh := so2.live hKh
  have hKo := so2.live hKo
  have so := so.trans so2
  have s := s.rek
  generalize hideF g6 fp = gB at so hKh hKo hKi s
  have fin : ∀ {v : Value} {g' : G} {n' : Nat} {fp' : List Nat} {k' m' : Nat} {B' : Bd}, B' = doB h fu o B → k' ≤ k + 30 → m' ≤ m + 2 → Sg RbH lb gB g' fp' B' k' m' → K v g' n' := by
    intro v g' n' fp' k' m' B' e q1 q2 s
    refine hK _ _ _ fp' ?_
    unfold opB; rw [if_pos hin, ← e]
    exact (s.back so).up q1 q2
  obtain ⟨q1, q4⟩ := hkd
  refine kLd_of (s.hs.live hKo) rfl ?_
  rw [kBin_eql]
  refine kSplit_d (fun e1 => ?_) (fun e1 => ?_)
  · refine ldI (s.hs.live hKi) (bLoad fun _ _ hs => ⟨(hs.live (s.hs.live hKi)).trans (s.hs.live hKi).symm, ?_⟩)
    have s := s.rsub hs
    refine bTell fun _ _ hs => ⟨(hs.live (s.hs.live hKi)).trans (s.hs.live hKi).symm, ?_⟩
    have s := s.rsub hs
    refine bLit3 s (by simp [atI, liI]) (by omega) fun _ _ _ _ _ _ s => aRet_of (Sub.refl _) (fin ?_ (by omega) (by omega) s)
    unfold doB; rw [if_pos e1]; rfl
  rw [kBin_eql]
  refine kSplit_d (fun e2 => ?_) (fun e2 => ?_)
  · refine ldH (s.hs.live hKh) (kLd_of (s.hs.live hKo) rfl (bNote s (by omega) fun _ _ _ _ s => ?_))
    refine ldI (s.hs.live hKi) (kLd_of (s.hs.live hKo) rfl (bLi fun _ _ hs => ⟨(hs.live (s.hs.live hKi)).trans (s.hs.live hKi).symm, ?_⟩))
    have s := s.rsub hs
    refine bStore fun _ _ hs => ⟨(hs.live (s.hs.live hKi)).trans (s.hs.live hKi).symm, ?_⟩
    have s := s.rsub hs
    refine bLit3 s (by simp [atI, liI]) (by omega) fun _ _ _ _ _ _ s => aRet_of (Sub.refl _) (fin ?_ (by omega) (by omega) s)
    unfold doB; rw [if_neg e1, if_pos e2]; rfl
  rw [kBin_eql]
  refine kSplit_d (fun e3 => ?_) (fun e3 => ?_)
  · refine ldH (s.hs.live hKh) (kLd_of (s.hs.live hKo) rfl (bNote s (by omega) fun _ _ _ _ s => ?_))
    refine ldI (s.hs.live hKi) (kLd_of (s.hs.live hKo) rfl ?_)
    refine ⟨rfl, by simp, rfl, by simp, rfl, by simp, rfl, by simp, ?_⟩
    refine bLoad fun _ _ hs => ⟨(hs.live (s.hs.live hKi)).trans (s.hs.live hKi).symm, (hs.live (s.hs.live hKo)).trans (s.hs.live hKo).symm, ?_⟩
    have s := s.rsub hs
    refine bLi fun _ _ hs => ⟨(hs.live (s.hs.live hKi)).trans (s.hs.live hKi).symm, ?_⟩
    have s := s.rsub hs
    refine bStore fun _ _ hs => ⟨(hs.live (s.hs.live hKi)).trans (s.hs.live hKi).symm, ?_⟩
    have s := s.rsub hs
    refine bTell fun _ _ hs => ⟨(hs.live (s.hs.live hKi)).trans (s.hs.live hKi).symm, ?_⟩
    have s := s.rsub hs
    refine bLat6 (atI h o.w) ldI1 (liI 5 o.v) ⟨2, 4, 4, 5, 0⟩ stI1 (tellI 4) s (by simp [atI, liI, ldI1, stI1, tellI]) (by omega) fun _ _ _ _ _ _ s => aRet_of (Sub.refl _) (fin ?_ (by omega) (by omega) s)
    unfold doB; rw [if_neg e1, if_neg e2, if_pos e3]; rfl
  rw [kBin_eql]
  refine kSplit_d (fun e4 => ?_) (fun e4 => by omega)
  refine bMark s (by omega) fun _ _ _ s => bMark s (by omega) fun _ _ _ s => ?_
  refine ldI (s.hs.live hKi) (bLoad fun _ _ hs => ⟨(hs.live (s.hs.live hKi)).trans (s.hs.live hKi).symm, ?_⟩)
  have s := s.rsub hs
  refine bLi fun _ _ hs => ⟨(hs.live (s.hs.live hKi)).trans (s.hs.live hKi).symm, ?_⟩
  have s := s.rsub hs
  refine bLit3 s (by simp [atI, liI]) (by omega) fun _ _ _ _ _ _ s => ?_
  refine fillI ⟨19, 4, 0, 0, 0⟩ _ rfl rfl rfl (bJump s (by omega) fun _ _ _ _ s => ?_)
  refine ldH (s.hs.live hKh) (kLd_of (s.hs.live hKo) rfl (bNote s (by omega) fun _ _ _ _ s => ?_))
  refine ldI (s.hs.live hKi) (kLd_of (s.hs.live hKo) rfl (bLi fun _ _ hs => ⟨(hs.live (s.hs.live hKi)).trans (s.hs.live hKi).symm, ?_⟩))
  have s := s.rsub hs
  refine bStore fun _ _ hs => ⟨(hs.live (s.hs.live hKi)).trans (s.hs.live hKi).symm, ?_⟩
  have s := s.rsub hs
  refine bLi fun _ _ hs => ⟨(hs.live (s.hs.live hKi)).trans (s.hs.live hKi).symm, ?_⟩
  have s := s.rsub hs
  refine bTell fun _ _ hs => ⟨(hs.live (s.hs.live hKi)).trans (s.hs.live hKi).symm, ?_⟩
  have s := s.rsub hs
  refine bLit5 s (by simp [atI, liI]) (by omega) fun _ _ _ _ _ _ s => fillOp 17 (bJump s (by omega) fun _ _ _ _ s => bHere s fun _ _ _ _ s => ?_)
  refine bLi fun _ _ hs => ?_
  have s := s.rsub hs
  refine bTell fun _ _ hs => ?_
  have s := s.rsub hs
  refine bLit2 s (by simp [liI]) (by omega) fun _ _ _ _ _ _ s => bHere s fun _ _ _ _ s => aRet_of (Sub.refl _) (fin ?_ (by omega) (by omega) s)
  unfold doB; rw [if_neg e1, if_neg e2, if_neg e3]; rfl
end Go.Proofs.YtecojalpbppfeaaGreat.Gen

namespace Go.Proofs.YtecojalpbppfeaaGreat.Gen
open Go Go.Proofs.YtecojalpbppfeaaGreat.Abs Go.RowKit
variable {g : G} {n : Nat}
variable {gK : G} {fp fp' : List Nat} {lb lw k m : Nat} {h : Hp} {fu ba en : Int} {B B' : Bd} {o : OpT}
theorem Lock_spec {K : Cont} (hK : ∀ g' n', Sub g g' → K (.int .u64 0) g' n') : AC layout_Lock_id [.agg (encH h).toArray] g n K := by
  refine ACalls.fold X0_mono ?_
  rw [← layout_Lock_eq]
  simp only [layout_Lock, kAgg_a]
  intro hn
  have hs := (Sub.refl g).new hn (some (.cells (encH h) .exact))
  refine Addr_spec fun n' => aRet_of (Sub.refl _) ?_
  have e : addrA 0 0 = 0 := by decide
  rw [e]; exact hK _ _ hs
theorem Bk.take (hb : Bk k m B) (a : Int) (hk : k + 6 ≤ 1000000) : Bk (k + 6) (m + 1) (takeB B a) := by
  obtain ⟨h1, h2⟩ := takeB_n B a
  exact ⟨takeB_ok hb.1 a (by have := hb.2.1; omega), by have := hb.2.1; omega, by have := hb.2.2; omega⟩
theorem Bk.give (hb : Bk k m B) (a : Int) (hk : k + 3 ≤ 1000000) : Bk (k + 3) m (giveB B a) := by
  obtain ⟨h1, h2⟩ := giveB_n B a
  exact ⟨giveB_ok hb.1 a (by have := hb.2.1; omega), by have := hb.2.1; omega, by have := hb.2.2; omega⟩
theorem aTake {a : Int} (s : Sg BdH lb gK g fp B k m) (hk : k + 6 ≤ 1000000) (hm : m + 1 ≤ 1000000) {K : Cont} (hK : ∀ v g' n' fp', Sg BdH lb gK g' fp' (takeB B a) (k + 6) (m + 1) → K v g' n') : AC lock_Take_id [ptr lb 0, .int .u64 a] g n K :=
  Take_spec s.b (by have := s.bk.2.1; omega) (by have := s.bk.2.2; omega) fun g' n' fp' hB u => hK _ _ _ _ (s.move hB u (s.bk.take a hk))
theorem aGive {a : Int} (s : Sg BdH lb gK g fp B k m) (hk : k + 3 ≤ 1000000) {K : Cont} (hK : ∀ v g' n' fp', Sg BdH lb gK g' fp' (giveB B a) (k + 3) m → K v g' n') : AC lock_Give_id [ptr lb 0, .int .u64 a] g n K :=
  Give_spec s.b (by have := s.bk.2.1; omega) fun g' n' fp' hB u => hK _ _ _ _ (s.move hB u (s.bk.give a hk))
theorem aBegin (s : Sg BdH lb gK g fp B k m) (hk : k + 1 ≤ 1000000) {K : Cont} (hK : ∀ v g' n' fp', Sg BdH lb gK g' fp' (B.add [liI 7 0]) (k + 1) m → K v g' n') : AC undo_Begin_id [ptr lb 0] g n K :=
  Begin_spec s.b s.bk hk fun g' n' fp' hB u hk' => hK _ _ _ _ (s.move hB u hk')
theorem aBack (s : Sg BdH lb gK g fp B k m) (hk : k + 19 ≤ 1000000) (hm : m + 2 ≤ 1000000) {K : Cont} (hK : ∀ v g' n' fp', Sg BdH lb gK g' fp' (backB h B) (k + 19) (m + 2) → K v g' n') : AC undo_Back_id [ptr lb 0, .agg (encH h).toArray] g n K :=
  Back_spec s.b s.bk hk hm fun g' n' fp' hB u hk' => hK _ _ _ _ (s.move hB u hk')
theorem aCommit {v : Value} {ws : List Int} (s : Sg BdH lb gK g fp B k m) (hk : k + 38 ≤ 1000000) (hv : Sl enc1 1 g v ws) (hl : ws.length ≤ 1000000) {K : Cont} (hK : ∀ v g' n' fp', Sg BdH lb gK g' fp' (commitB h ws B) (k + 38) m → K v g' n') : AC undo_Commit_id [ptr lb 0, .agg (encH h).toArray, v] g n K :=
  Commit_spec s.b s.bk hk hv hl fun g' n' fp' hB u hk' => hK _ _ _ _ (s.move hB u hk')
/-- behind the ops -/
theorem tx_c3 {t : Env} {K : Cont} (s : Sg BdH lb gK g fp B k m) (hw : gK lw = some (.cells (wCells lb h fu ba en) .exact)) (hk : k + 4 ≤ 1000000) (t0 : t 0 = ptr lw 0)
    (hK : ∀ v g' n' fp', Sg BdH lb gK g' fp' ((giveB (B.here en) 0).add [tellI 5]) (k + 4) m → K v g' n') : client_writer_tx_cut3 AC K t g n := by
  simp only [client_writer_tx_cut3, t0, kNil_p, kPtr_p]
  refine kLd_of (s.hs.live hw) rfl (kLd_of (s.hs.live hw) rfl (aHere s fun _ _ _ _ s => ?_))
  have hw1 := s.hs.live hw
  refine kLd_of hw1 rfl (ldW hw1 (Lock_spec fun _ _ hs => ?_))
  have s := s.sub hs
  refine ⟨(s.hs.live hw).trans hw1.symm, aGive s (by omega) fun _ _ _ _ s => wTell s hw (by omega) fun _ _ _ _ s => aRet_of (Sub.refl _) (hK _ _ _ _ (s.up (by omega) (by omega)))⟩
theorem tx_c2 {t : Env} {K : Cont} (s : Sg BdH lb gK g fp B k m) (hw : gK lw = some (.cells (wCells lb h fu ba en) .exact)) (hk : k + 24 ≤ 1000000) (hm : m + 2 ≤ 1000000) (t0 : t 0 = ptr lw 0)
    (hK : ∀ v g' n' fp', Sg BdH lb gK g' fp' ((giveB ((backB h ((((B.here fu).add [liI 5 102]).here ba))).here en) 0).add [tellI 5]) (k + 24) (m + 2) → K v g' n') : client_writer_tx_cut2 AC K (client_writer_tx_cut3 AC K) t g n := by
  simp only [client_writer_tx_cut2, t0, kNil_p, kPtr_p]
  refine kLd_of (s.hs.live hw) rfl (kLd_of (s.hs.live hw) rfl (aHere s fun _ _ _ _ s => wLi s hw (by omega) fun _ _ _ _ s => ?_))
  refine kLd_of (s.hs.live hw) rfl (kLd_of (s.hs.live hw) rfl (aHere s fun _ _ _ _ s => ?_))
  refine kLd_of (s.hs.live hw) rfl (ldW (s.hs.live hw) (aBack s (by omega) (by omega) fun _ _ _ _ s => ?_))
  exact tx_c3 s hw (by omega) t0 fun _ _ _ _ s => hK _ _ _ _ (s.up (by omega) (by omega))
theorem tx_c1 {t : Env} {K : Cont} {l3 : Nat} {vo x : Value} {ab : Bool} {ws : List Int} (s : Sg BdH lb gK g fp B k m) (hw : gK lw = some (.cells (wCells lb h fu ba en) .exact)) (hk : k + 70 ≤ 1000000) (hm : m + 2 ≤ 1000000) (t0 : t 0 = ptr lw 0) (t3 : t 3 = ptr l3 0) (t4 : t 4 = x)
    (h3 : gK l3 = some (.cells [vo, .bool ab] .exact)) (hx : Sl enc1 1 g x ws) (hl : ws.length ≤ 1000000)
    (hK : ∀ v g' n' fp', Sg BdH lb gK g' fp' (tailB h ab ws fu ba en B) (k + 70) (m + 2) → K v g' n') : client_writer_tx_cut1 AC K (client_writer_tx_cut2 AC K (client_writer_tx_cut3 AC K)) t g n := by
  simp only [client_writer_tx_cut1, client_writer_tx_j3, t0, t3, t4, kNil_p, kPtr_p]
  refine kLd_of (s.hs.live h3) rfl ?_
  cases ab with
  | true =>
    refine kSplit_t rfl (wLi s hw (by omega) fun _ _ _ _ s => kLd_of (s.hs.live hw) rfl (wJump s hw (by omega) fun _ _ _ _ s => ?_))
    exact tx_c2 s hw (by omega) (by omega) t0 fun _ _ _ _ s => hK _ _ _ _ (s.up (by omega) (by omega))
  | false =>
    refine kSplit_f rfl (kLd_of (s.hs.live hw) rfl (ldW (s.hs.live hw) (aCommit s (by omega) hx hl fun _ _ _ _ s => wLi s hw (by omega) fun _ _ _ _ s => kLd_of (s.hs.live hw) rfl (wJump s hw (by omega) fun _ _ _ _ s => ?_))))
    exact tx_c2 s hw (by omega) (by omega) t0 fun _ _ _ _ s => hK _ _ _ _ (s.up (by omega) (by omega))
end Go.Proofs.YtecojalpbppfeaaGreat.Gen

namespace Go.Proofs.YtecojalpbppfeaaGreat.Gen
open Go Go.Proofs.YtecojalpbppfeaaGreat.Abs Go.RowKit
variable {g : G} {n : Nat}
variable {gK : G} {fp fp' : List Nat} {lb lw k m : Nat} {h : Hp} {fu ba en : Int} {B B' : Bd} {o : OpT}
theorem hide_own {α : Type} {enc : α → List Value} {z : Nat} {v : Value} {xs : List α} (h : OwnS enc z none0 g v xs) (hd : ∀ l ∈ blks v, l ∉ fp) : OwnS enc z none0 (hideF g fp) v xs :=
  h.keepB fun _ _ h1 h2 => hideF_some h1 (hd _ h2)
theorem fill11 (x : Int) {K : List Value → Prop} (kk : K (enc1 x)) : kFill (reps 1 [(.int .i64 0)]) [(0, none, (.int .i64 x))] K := ⟨rfl, by simp [reps], kk⟩
theorem tx_l1 {t : Env} {K : Cont} {l3 : Nat} {vo : Value} {ab : Bool} {ops : List OpT} (s : Sg BdH lb gK g fp B k m) (hG : GoodH h) (hw : gK lw = some (.cells (wCells lb h fu ba en) .exact)) (hgd : GoodT ops) (hk : k + 600 ≤ 1000000) (hm : m + 40 ≤ 1000000)
    (t0 : t 0 = ptr lw 0) (t3 : t 3 = ptr l3 0) (t4 : t 4 = .slice none 0 0) (t47 : t 47 = vo) (t48 : t 48 = .int .i64 (ops.length : Nat)) (t49 : t 49 = .int .i64 0)
    (h3 : gK l3 = some (.cells [vo, .bool ab] .exact)) (ho : Sl encO 3 gK vo ops)
    (hK : ∀ v g' n' fp', Sg BdH lb gK g' fp' (tailB h ab (wsP h ops) fu ba en (ops.foldl (opB h fu ba) B)) (k + 600) (m + 40) → K v g' n') : lfp (client_writer_tx_l1 AC K (client_writer_tx_cut1 AC K (client_writer_tx_cut2 AC K (client_writer_tx_cut3 AC K)))) t g n := by
  obtain ⟨h16, hgo⟩ := hgd
  refine lfp_ind (m := ops.length) (Inv := fun mm t g' n' => ∃ (j : Nat) (fp' : List Nat) (x : Value), mm + j = ops.length ∧ t 0 = ptr lw 0 ∧ t 3 = ptr l3 0 ∧ t 4 = x ∧ t 47 = vo ∧ t 48 = .int .i64 (ops.length : Nat) ∧ t 49 = .int .i64 (j : Nat) ∧
    Sg BdH lb gK g' fp' ((ops.take j).foldl (opB h fu ba) B) (k + 30 * j) (m + 2 * j) ∧ OwnS enc1 1 none0 g' x (wsP h (ops.take j)) ∧ (∀ l ∈ blks x, gK l = none) ∧ (∀ l ∈ blks x, l ∉ fp') ∧ (∀ l ∈ blks x, ∃ b, g' l = some b)) ?_
    ⟨0, fp, _, by simp, t0, t3, t4, t47, t48, t49, s, OwnS.nil, by simp [blks, blkOf], by simp [blks, blkOf], by simp [blks, blkOf]⟩
  rintro I mm t gC nC ih ⟨j, fpC, x, hmm, t0, t3, t4, t47, t48, t49, s, hx, hxK, hxf, hxl⟩
  simp only [client_writer_tx_l1, t0, t4, t47, t48, t49, kNil_p, kPtr_p, kBin_lss]
  refine kSplit_d (fun hj => ?_) (fun hj => ?_)
  · have hj : j < ops.length := by omega
    have hget := List.getElem?_eq_getElem hj
    have hgo1 := hgo _ (List.mem_of_getElem? hget)
    generalize ops[j] = o at hget hgo1
    have hwt := wsP_take (h := h) hget
    have hft : (ops.take (j + 1)).foldl (opB h fu ba) B = opB h fu ba ((ops.take j).foldl (opB h fu ba) B) o := by rw [List.take_add_one, hget, List.foldl_append]; rfl
    refine (ho.mono s.hs).idx encO_len hget (fun l o1 ha => ?_)
    simp only [kPtr_p]
    refine ha.ldN rfl (fun hn6 => copyO hn6 rfl fun s6 hb6 => ?_)
    generalize upd gC nC (some (.cells (encO o) .exact)) = g6 at s6 hb6
    have hnC := notIn s.b hn6
    have s := s.sub s6
    -- all but the builder is kept over the op
    have hx6 : OwnS enc1 1 none0 (hideF g6 fpC) x (wsP h (ops.take j)) := hide_own (hx.mono s6) hxf
    have so := s.old
    have h6K := hideF_some hb6 hnC
    have hwK := so.live hw
    have hxl6 : ∀ l ∈ blks x, ∃ b, hideF g6 fpC l = some b := fun l hl => by obtain ⟨b, hb⟩ := hxl l hl; exact ⟨b, hideF_some (s6.live hb) (hxf l hl)⟩
    have s := s.rek
    generalize hideF g6 fpC = gK2 at hx6 so h6K hwK hxl6 s
    -- go on
    have go : ∀ (t' : Env) (g' : G) (n' : Nat) (fp' : List Nat) (x' : Value), t' 0 = ptr lw 0 → t' 3 = ptr l3 0 → t' 4 = x' → t' 47 = vo → t' 48 = .int .i64 (ops.length : Nat) → t' 49 = .int .i64 ((j + 1 : Nat) : Int) → Sg BdH lb gK g' fp' (opB h fu ba ((ops.take j).foldl (opB h fu ba) B) o) (k + 30 * j + 30) (m + 2 * j + 2) → OwnS enc1 1 none0 g' x' (wsP h (ops.take (j + 1))) → (∀ l ∈ blks x', gK l = none) → (∀ l ∈ blks x', l ∉ fp') → (∀ l ∈ blks x', ∃ b, g' l = some b) → I t' g' n' :=
      fun t' g' n' fp' x' q0 q3 q4 q47 q48 q49 q5 q6 q7 q8 q9 => ih (mm - 1) _ _ _ (by omega) ⟨j + 1, fp', x', by omega, q0, q3, q4, q47, q48, q49, by rw [hft]; exact q5.up (by omega) (by omega), q6, q7, q8, q9⟩
    -- the same words
    have same : inH h o = false ∨ o.kind = 1 → ∀ (t' : Env) (g' : G) (n' : Nat) (fp' : List Nat), t' 0 = ptr lw 0 → t' 3 = ptr l3 0 → t' 4 = x → t' 47 = vo → t' 48 = .int .i64 (ops.length : Nat) → t' 49 = .int .i64 ((j + 1 : Nat) : Int) → Sg BdH lb gK2 g' fp' (opB h fu ba ((ops.take j).foldl (opB h fu ba) B) o) (k + 30 * j + 30) (m + 2 * j + 2) → I t' g' n' := by
      intro hno t' g' n' fp' q0 q3 q4 q47 q48 q49 q5
      refine go t' g' n' fp' x q0 q3 q4 q47 q48 q49 (q5.back so) ?_ hxK (fun l hl hm => ?_) (fun l hl => ?_)
      · rw [hwt, if_neg (by rcases hno with hh | hh <;> simp [hh]), List.append_nil]; exact hx6.mono q5.hs
      · obtain ⟨b, hb⟩ := hxl6 l hl
        rw [q5.hd l hm] at hb; cases hb
      · obtain ⟨b, hb⟩ := hxl6 l hl
        exact ⟨b, q5.hs.live hb⟩
    have bad : inH h o = false → ∀ {g' : G} {fp' : List Nat}, Sg BdH lb gK2 g' fp' ((((ops.take j).foldl (opB h fu ba) B).add [liI 5 103]).jump jmpI ba) (k + 30 * j + 2) (m + 2 * j) → Sg BdH lb gK2 g' fp' (opB h fu ba ((ops.take j).foldl (opB h fu ba) B) o) (k + 30 * j + 30) (m + 2 * j + 2) := by
      intro hno g' fp' s
      unfold opB; rw [if_neg (by rw [hno]; decide)]
      exact s.up (by omega) (by omega)
    refine kLd_of hb6 rfl ?_
    rw [kBin_lss]
    refine kSplit_d (fun h0 => ?_) (fun h0 => ?_)
    · have hno : inH h o = false := by unfold inH; rw [decide_eq_false_iff_not]; omega
      refine wLi s hwK (by omega) fun _ _ _ _ s => kLd_of (s.hs.live hwK) rfl (wJump s hwK (by omega) fun _ _ _ fp9 s => ?_)
      rw [kBin_add, wrapNat (by omega)]
      exact same (.inl hno) _ _ _ fp9 t0 t3 t4 t47 t48 rfl (bad hno s)
    refine kLd_of hb6 rfl (ldW (s.hs.live hwK) (Wds_spec fun g15 n15 h15 => ⟨(h15.live hb6).trans hb6.symm, ?_⟩))
    have s := s.sub h15
    rw [kBin_geq]
    refine kSplit_d (fun h1 => ?_) (fun h1 => ?_)
    · have hno : inH h o = false := by unfold inH; rw [decide_eq_false_iff_not]; omega
      refine wLi s hwK (by omega) fun _ _ _ _ s => kLd_of (s.hs.live hwK) rfl (wJump s hwK (by omega) fun _ _ _ fp9 s => ?_)
      rw [kBin_add, wrapNat (by omega)]
      exact same (.inl hno) _ _ _ fp9 t0 t3 t4 t47 t48 rfl (bad hno s)
    have hin : inH h o = true := by unfold inH; rw [decide_eq_true_eq]; omega
    have h6l := s.hs.live h6K
    refine kLd_of h6l rfl (ldO h6l (Does_spec fun g18 n18 h18 => ⟨(h18.live h6l).trans h6l.symm, (h18.live h6l).trans h6l.symm, ?_⟩))
    have s := s.sub h18
    refine wDo hgo1.1 hgo1.2.1 s hwK (by omega) (by omega) fun f v g19 n19 fp19 s => ?_
    have eop : opB h fu ba ((ops.take j).foldl (opB h fu ba) B) o = doB h fu o ((ops.take j).foldl (opB h fu ba) B) := by unfold opB; rw [if_pos hin]
    rw [← eop] at s
    refine kLd_of (s.hs.live h6K) rfl ?_
    rw [kBin_neq]
    refine kSplit_d (fun hk1 => ?_) (fun hk1 => ?_)
    · refine kLd_of (s.hs.live h6K) rfl (fill11 o.w fun hn20 => ?_)
      have s20 := (Sub.refl g19).new hn20 (some (.cells (enc1 o.w) .exact))
      have hone : Sl enc1 1 (upd g19 n19 (some (.cells (enc1 o.w) .exact))) (.slice (some ⟨n19, 0, none⟩) 1 1) [o.w] := Sl.one rfl (upd_same _ _ _)
      have s := s.sub s20
      have hlw := wsP_len (h := h) (ops.take j)
      rw [List.length_take] at hlw
      refine own_app (g := upd g19 n19 (some (.cells (enc1 o.w) .exact))) (hx6.mono s.hs) hone enc1_cell (by decide) (by simp; omega) (by simp; omega) (by simp) fun x' g21 n21 hox hkp hfr => ?_
      have hxf19 : ∀ l ∈ blks x, l ∉ fp19 := fun l hl hm => by
        obtain ⟨b, hb⟩ := hxl6 l hl
        rw [s.hd l hm] at hb; cases hb
      rw [kBin_add, wrapNat (by omega)]
      refine go _ _ _ fp19 x' t0 t3 rfl t47 t48 rfl ⟨s.b.keep fun l b hl hm => hkp l b hl fun hmx => hxf19 l hmx hm, fun l => ?_, fun l hl => so.none (s.hd l hl), s.bk⟩ ?_ (fun l hl => so.none (s.hs.none (hfr l hl))) (fun l hl hm => ?_) (fun l hl => hox.there l hl (by simp))
      · cases hq : gK l with
        | none => exact .inl rfl
        | some b => exact .inr (hkp l b (s.hs.live (so.live hq)) fun hmx => by rw [hxK l hmx] at hq; cases hq).symm
      · rw [hwt, if_pos ⟨hin, hk1⟩]; exact hox
      · obtain ⟨b, hb⟩ := s.b.live l hm
        rw [hfr l hl] at hb; cases hb
    · rw [kBin_add, wrapNat (by omega)]
      exact same (.inr (by omega)) _ _ _ fp19 t0 t3 t4 t47 t48 rfl s
  · have hje : ops.take j = ops := List.take_of_length_le (by omega)
    have hjl : j ≤ 16 := by omega
    rw [hje] at s hx
    simp only [client_writer_tx_j2]
    exact tx_c1 s hw (by omega) (by omega) t0 t3 t4 h3 hx.sl (by have := wsP_len (h := h) ops; omega) fun _ _ _ _ s => hK _ _ _ _ (s.up (by omega) (by omega))
set_option maxHeartbeats 1000000 in
theorem Tx_spec {gK : G} {vo : Value} {t : TxT} {fu0 ba0 en0 : Int} (s : Sg BdH lb gK g fp B k m) (hG : GoodH h) (hwg : g lw = some (.cells (wCells lb h fu0 ba0 en0) .exact)) (hwK : gK lw = none) (hwf : lw ∉ fp) (ho : Sl encO 3 gK vo t.ops) (hgd : GoodT t.ops) (hk : k + 700 ≤ 1000000) (hm : m + 50 ≤ 1000000) {K : Cont}
    (hK : ∀ v g' n' fp' fu ba en, Sg BdH lb gK g' fp' (txB h t B) (k + 700) (m + 50) → g' lw = some (.cells (wCells lb h fu ba en) .exact) → lw ∉ fp' → K v g' n') : AC client_writer_tx_id [ptr lw 0, .agg ([vo, .bool t.abort] : List Value).toArray] g n K := by
  refine ACalls.fold X0_mono ?_
  rw [← client_writer_tx_eq]
  simp only [client_writer_tx, client_writer_tx_c, kAgg_a, kNil_p, kPtr_p]
  intro hn
  have hs := (Sub.refl g).new hn (some (.cells [vo, .bool t.abort] .exact))
  have hb : upd g n (some (.cells [vo, .bool t.abort] .exact)) n = some (.cells [vo, .bool t.abort] .exact) := upd_same _ _ _
  generalize upd g n (some (.cells [vo, .bool t.abort] .exact)) = g1 at hs hb
  have hnf := notIn s.b hn
  have hnw : n ≠ lw := fun e => by rw [e, hwg] at hn; cases hn
  have s := s.sub hs
  have hw1 := hs.live hwg
  have so := s.old
  have h3K := hideF_some hb hnf
  have hwA := hideF_some hw1 hwf
  have s := s.rek
  generalize hideF g1 fp = gA at so h3K hwA s
  have hwl : ∀ {g' : G} {fp' : List Nat} {B' : Bd} {k' m' : Nat}, Sg BdH lb gA g' fp' B' k' m' → g' lw = some (.cells (wCells lb h fu0 ba0 en0) .exact) := fun s => s.hs.live hwA
  refine kLd_of hw1 rfl (kLd_of hw1 rfl (kLd_of hw1 rfl (aMark s (by omega) fun g2 n2 fp2 s2 => ⟨(hwl s2).trans hw1.symm, (hwl s2).trans hw1.symm, aMark s2 (by omega) fun g3 n3 fp3 s3 => ⟨(hwl s3).trans (hwl s2).symm, aMark s3 (by omega) fun g4 n4 fp4 s4 => ?_⟩⟩)))
  have hw4 := hwl s4
  have hf4 := s4.keepN hwA
  -- the writer's own fields are written
  have sub1 : Sub (upd gA lw none) gA := fun l => by
    by_cases e : l = lw
    · subst e; exact .inl (upd_same _ _ _)
    · exact .inr (upd_ne _ _ e)
  have so1 : Sub gK (upd gA lw none) := fun l => by
    by_cases e : l = lw
    · subst e; exact .inl hwK
    · rw [upd_ne _ _ e]; exact so l
  have h3B : upd gA lw none n = some (.cells [vo, .bool t.abort] .exact) := by rw [upd_ne _ _ hnw]; exact h3K
  have hBw : upd gA lw none lw = none := upd_same _ _ _
  have s5 := s4.back sub1
  generalize upd gA lw none = gB at so1 h3B hBw s5
  refine kSt_of hw4 rfl (by simp [wCells, encH_len]) rfl ?_
  refine kSt_of (upd_same _ _ _) rfl (by simp [wCells, encH_len]) rfl ?_
  refine kSt_of (upd_same _ _ _) rfl (by simp [wCells, encH_len]) rfl ?_
  simp only [upd_upd]
  have ew : (((wCells lb h fu0 ba0 en0).set (0 + 10) (.int .i64 (B.marks.length : Nat))).set (0 + 11) (.int .i64 (B.mark.marks.length : Nat))).set (0 + 12) (.int .i64 (B.mark.mark.marks.length : Nat)) = wCells lb h B.marks.length (B.mark.marks.length : Nat) (B.mark.mark.marks.length : Nat) := rfl
  rw [ew]
  have s6 := s5.set (bb := some (.cells (wCells lb h B.marks.length (B.mark.marks.length : Nat) (B.mark.mark.marks.length : Nat)) .exact)) hBw hf4
  have hw6 : upd g4 lw (some (.cells (wCells lb h B.marks.length (B.mark.marks.length : Nat) (B.mark.mark.marks.length : Nat)) .exact)) lw = some (.cells (wCells lb h B.marks.length (B.mark.marks.length : Nat) (B.mark.mark.marks.length : Nat)) .exact) := upd_same _ _ _
  generalize upd g4 lw (some (.cells (wCells lb h B.marks.length (B.mark.marks.length : Nat) (B.mark.mark.marks.length : Nat)) .exact)) = g7 at s6 hw6
  have so2 := s6.old
  have hwC := hideF_some hw6 hf4
  have s7 := s6.rek
  generalize hideF g7 fp4 = gC at so2 hwC s7
  have soC := so1.trans so2
  refine kLd_of hw6 rfl (ldW hw6 (Lock_spec fun g8 n8 h8 => ⟨(h8.live hw6).trans hw6.symm, ?_⟩))
  have s8 := s7.sub h8
  refine aTake s8 (by omega) (by omega) fun _ _ _ _ s => kLd_of (s.hs.live hwC) rfl (aBegin s (by omega) fun _ _ _ _ s => ?_)
  refine kLd_of (s.hs.live (so2.live h3B)) rfl ((ho.mono (soC.trans s.hs)).len ?_)
  refine tx_l1 s hG hwC hgd (by omega) (by omega) rfl rfl rfl rfl rfl rfl (so2.live h3B) (ho.mono soC) fun v g' n' fp' s' => ?_
  exact hK _ _ _ _ _ _ _ ((s'.back soC).up (by omega) (by omega)) (s'.hs.live hwC) (s'.keepN hwC)
end Go.Proofs.YtecojalpbppfeaaGreat.Gen

namespace Go.Proofs.YtecojalpbppfeaaGreat.Gen
open Go Go.Proofs.YtecojalpbppfeaaGreat.Abs Go.RowKit
variable {g : G} {n : Nat}
variable {gK : G} {fp fp' : List Nat} {lb k m : Nat} {h : Hp} {fu ba en : Int} {B B' : Bd} {o : OpT}
theorem bTakeL {a : Int} (s : Sg RbH lb gK g fp B k m) (hk : k + 6 ≤ 1000000) (hm : m + 1 ≤ 1000000) {K : Cont} (hK : ∀ v g' n' fp', Sg RbH lb gK g' fp' (takeB B a) (k + 6) (m + 1) → K v g' n') : AC bellowsref23_Take_id [ptr lb 0, .int .u64 a] g n K :=
  rTake_spec s.b (by have := s.bk.2.1; omega) (by have := s.bk.2.2; omega) fun g' n' fp' hB u => hK _ _ _ _ (s.move hB u (s.bk.take a hk))
theorem bGive {a : Int} (s : Sg RbH lb gK g fp B k m) (hk : k + 3 ≤ 1000000) {K : Cont} (hK : ∀ v g' n' fp', Sg RbH lb gK g' fp' (giveB B a) (k + 3) m → K v g' n') : AC bellowsref23_Give_id [ptr lb 0, .int .u64 a] g n K :=
  rGive_spec s.b (by have := s.bk.2.1; omega) fun g' n' fp' hB u => hK _ _ _ _ (s.move hB u (s.bk.give a hk))
theorem bBegin (s : Sg RbH lb gK g fp B k m) (hk : k + 1 ≤ 1000000) {K : Cont} (hK : ∀ v g' n' fp', Sg RbH lb gK g' fp' (B.add [liI 7 0]) (k + 1) m → K v g' n') : AC bellowsref24_Begin_id [ptr lb 0] g n K :=
  rBegin_spec s.b s.bk hk fun g' n' fp' hB u => hK _ _ _ _ (s.move hB u (s.bk.add (by simp [liI]) (by simpa using hk)))
theorem bBack (s : Sg RbH lb gK g fp B k m) (hk : k + 19 ≤ 1000000) (hm : m + 2 ≤ 1000000) {K : Cont} (hK : ∀ v g' n' fp', Sg RbH lb gK g' fp' (backB h B) (k + 19) (m + 2) → K v g' n') : AC bellowsref24_Back_id [ptr lb 0, .agg (encH h).toArray] g n K :=
  rBack_spec s.b s.bk hk hm fun g' n' fp' hB u => hK _ _ _ _ (s.move hB u (backB_bk s.bk hk))
theorem commitB_bk {ws : List Int} (hk : Bk k m B) (hk2 : k + 38 ≤ 1000000) : Bk (k + 38) m (commitB h ws B) := by
  unfold commitB
  split
  · rename_i hG
    have h1 := lineL_len h hG ws
    have h2 := clL_len (lineL h ws)
    exact ((hk.add (clL_ops _) (by omega)).add (ys := noughtL h) (by simp [noughtL, liI]) (by simp [noughtL]; omega)).up (by simp [noughtL]; omega) (Nat.le_refl _)
  · exact hk.up (by omega) (Nat.le_refl _)
theorem bCommit {v : Value} {ws : List Int} (s : Sg RbH lb gK g fp B k m) (hk : k + 38 ≤ 1000000) (hv : Sl enc1 1 (hideF g fp) v ws) (hl : ws.length ≤ 1000000) {K : Cont} (hK : ∀ v g' n' fp', Sg RbH lb gK g' fp' (commitB h ws B) (k + 38) m → K v g' n') : AC bellowsref24_Commit_id [ptr lb 0, .agg (encH h).toArray, v] g n K :=
  rCommit_spec (hideF_sub g fp) (fun _ hl => hideF_none hl) hv hl s.b s.bk hk fun g' n' fp' hB u => hK _ _ _ _ (s.move hB u (commitB_bk s.bk hk))
theorem whole_j4 {t : Env} {K : Cont} {l4 : Nat} (s : Sg RbH lb gK g fp B k m) (hb4 : gK l4 = some (.cells (encH h) .exact)) (hk : k + 24 ≤ 1000000) (hm : m + 2 ≤ 1000000) (t0 : t 0 = ptr lb 0) (t4 : t 4 = ptr l4 0) (t6 : t 6 = .int .i64 fu) (t7 : t 7 = .int .i64 ba) (t8 : t 8 = .int .i64 en)
    (hK : ∀ v g' n' fp', Sg RbH lb gK g' fp' ((giveB ((backB h ((((B.here fu).add [liI 5 102]).here ba))).here en) 0).add [tellI 5]) (k + 24) (m + 2) → K v g' n') : bellowsref25_whole_j4 AC K t g n := by
  simp only [bellowsref25_whole_j4, t0, t4, t6, t7, t8, kPtr_p]
  refine bHere s fun _ _ _ _ s => bLi fun _ _ hs => ?_
  have s := s.rsub hs
  refine bLit1 s (by simp [liI]) (by omega) fun _ _ _ _ _ _ s => bHere s fun _ _ _ _ s => ?_
  refine ldH (s.hs.live hb4) (bBack s (by omega) (by omega) fun _ _ _ _ s => bHere s fun _ _ _ _ s => bGive s (by omega) fun _ _ _ _ s => bTell fun _ _ hs => ?_)
  have s := s.rsub hs
  exact bLit1 s (by simp) (by omega) fun _ _ _ _ _ _ s => aRet_of (Sub.refl _) (hK _ _ _ _ (s.up (by omega) (by omega)))
theorem whole_j3 {t : Env} {K : Cont} {l4 l5 : Nat} {vo x : Value} {ab : Bool} {ws : List Int} (s : Sg RbH lb gK g fp B k m) (hb4 : gK l4 = some (.cells (encH h) .exact)) (hb5 : gK l5 = some (.cells [vo, .bool ab] .exact)) (hk : k + 70 ≤ 1000000) (hm : m + 2 ≤ 1000000) (t0 : t 0 = ptr lb 0) (t4 : t 4 = ptr l4 0) (t5 : t 5 = ptr l5 0) (t6 : t 6 = .int .i64 fu) (t7 : t 7 = .int .i64 ba) (t8 : t 8 = .int .i64 en) (t9 : t 9 = x)
    (hx : Sl enc1 1 (hideF g fp) x ws) (hl : ws.length ≤ 1000000)
    (hK : ∀ v g' n' fp', Sg RbH lb gK g' fp' (tailB h ab ws fu ba en B) (k + 70) (m + 2) → K v g' n') : bellowsref25_whole_j3 AC K t g n := by
  simp only [bellowsref25_whole_j3, t0, t4, t5, t7, t8, t9, kPtr_p]
  refine kLd_of (s.hs.live hb5) rfl ?_
  cases ab with
  | true =>
    refine kSplit_t rfl (bLi fun _ _ hs => ?_)
    have s := s.rsub hs
    refine bLit1 s (by simp [liI]) (by omega) fun _ _ _ _ _ _ s => fillOp 17 (bJump s (by omega) fun _ _ _ _ s => ?_)
    exact whole_j4 s hb4 (by omega) (by omega) t0 t4 t6 t7 t8 fun _ _ _ _ s => hK _ _ _ _ (s.up (by omega) (by omega))
  | false =>
    refine kSplit_f rfl (ldH (s.hs.live hb4) (bCommit s (by omega) hx hl fun _ _ _ _ s => bLi fun _ _ hs => ?_))
    have s := s.rsub hs
    refine bLit1 s (by simp [liI]) (by omega) fun _ _ _ _ _ _ s => fillOp 17 (bJump s (by omega) fun _ _ _ _ s => ?_)
    exact whole_j4 s hb4 (by omega) (by omega) t0 t4 t6 t7 t8 fun _ _ _ _ s => hK _ _ _ _ (s.up (by omega) (by omega))
set_option maxHeartbeats 1000000 in
theorem rwhole_spec {vo : Value} {t : TxT} (s : Sg RbH lb gK g fp B k m) (hG : GoodH h) (ho : Sl encO 3 gK vo t.ops) (hgd : GoodT t.ops) (hk : k + 700 ≤ 1000000) (hm : m + 50 ≤ 1000000) {K : Cont}
    (hK : ∀ v g' n' fp', Sg RbH lb gK g' fp' (txB h t B) (k + 700) (m + 50) → K v g' n') : AC bellowsref25_whole_id [ptr lb 0, .agg (encH h).toArray, .agg ([vo, .bool t.abort] : List Value).toArray] g n K := by
  refine ACalls.fold X0_mono ?_
  rw [← bellowsref25_whole_eq]
  simp only [bellowsref25_whole, kAgg_a]
  intro hn hn1
  have h1 := (Sub.refl g).new hn (some (.cells (encH h) .exact))
  have hbh : upd g n (some (.cells (encH h) .exact)) n = some (.cells (encH h) .exact) := upd_same _ _ _
  generalize upd g n (some (.cells (encH h) .exact)) = g1 at h1 hbh hn1
  have h2 := (Sub.refl g1).new hn1 (some (.cells [vo, .bool t.abort] .exact))
  have hbo : upd g1 (n + 1) (some (.cells [vo, .bool t.abort] .exact)) (n + 1) = some (.cells [vo, .bool t.abort] .exact) := upd_same _ _ _
  have hbh := h2.live hbh
  generalize upd g1 (n + 1) (some (.cells [vo, .bool t.abort] .exact)) = g2 at h2 hbh hbo
  have hnf := rnotIn s.b hn
  have hnf1 : n + 1 ∉ fp := rnotIn (s.b.mono h1) hn1
  have s := (s.rsub h1).rsub h2
  have so := s.old
  have hKh := hideF_some hbh hnf
  have hKo := hideF_some hbo hnf1
  have s := s.rek
  generalize hideF g2 fp = gA at so hKh hKo s
  have ho := ho.mono so
  obtain ⟨h16, hgo⟩ := hgd
  refine bMark s (by omega) fun _ _ _ s => bMark s (by omega) fun _ _ _ s => bMark s (by omega) fun _ _ _ s => bTakeL s (by omega) (by omega) fun _ _ _ _ s => bBegin s (by omega) fun _ g7 n7 fp7 s => ?_
  refine lfp_ind (m := t.ops.length) (Inv := fun mm e g' n' => ∃ (j : Nat) (fp' : List Nat) (x : Value), mm + j = t.ops.length ∧ e 0 = ptr lb 0 ∧ e 4 = ptr n 0 ∧ e 5 = ptr (n + 1) 0 ∧ e 6 = .int .i64 (B.marks.length : Nat) ∧ e 7 = .int .i64 (B.mark.marks.length : Nat) ∧ e 8 = .int .i64 (B.mark.mark.marks.length : Nat) ∧ e 9 = x ∧ e 10 = .int .i64 (j : Nat) ∧
    Sg RbH lb gA g' fp' ((t.ops.take j).foldl (opB h B.marks.length (B.mark.marks.length : Nat)) (headB B)) (k + 7 + 30 * j) (m + 4 + 2 * j) ∧ OwnS enc1 1 none0 g' x (wsR (t.ops.take j)) ∧ (∀ l ∈ blks x, gA l = none) ∧ (∀ l ∈ blks x, l ∉ fp') ∧ (∀ l ∈ blks x, ∃ b, g' l = some b)) ?_
    ⟨0, fp7, .slice none 0 0, by simp, rfl, rfl, rfl, rfl, rfl, rfl, rfl, rfl, s, OwnS.nil, by simp [blks, blkOf], by simp [blks, blkOf], by simp [blks, blkOf]⟩
  rintro I mm e gC nC ih ⟨j, fpC, x, hmm, t0, t4, t5, t6, t7, t8, t9, t10, s, hx, hxK, hxf, hxl⟩
  simp only [bellowsref25_whole_l1, t0, t4, t5, t6, t7, t9, t10, kPtr_p]
  refine kLd_of (s.hs.live hKo) rfl ((ho.mono s.hs).len ?_)
  rw [kBin_lss]
  refine kSplit_d (fun hj => ?_) (fun hj => ?_)
  · have hj : j < t.ops.length := by omega
    have hget := List.getElem?_eq_getElem hj
    have hgo1 := hgo _ (List.mem_of_getElem? hget)
    generalize t.ops[j] = o at hget hgo1
    have hwt := wsR_take hget
    have hft : (t.ops.take (j + 1)).foldl (opB h B.marks.length (B.mark.marks.length : Nat)) (headB B) = opB h B.marks.length (B.mark.marks.length : Nat) ((t.ops.take j).foldl (opB h B.marks.length (B.mark.marks.length : Nat)) (headB B)) o := by rw [List.take_add_one, hget, List.foldl_append]; rfl
    refine ldH (s.hs.live hKh) (kLd_of (s.hs.live hKo) rfl ((ho.mono s.hs).idx encO_len hget (fun l o1 ha => ?_)))
    simp only [kPtr_p]
    have hx6 : OwnS enc1 1 none0 (hideF gC fpC) x (wsR (t.ops.take j)) := hide_own hx hxf
    have so2 := s.old
    have hxl6 : ∀ l ∈ blks x, ∃ b, hideF gC fpC l = some b := fun l hl => by obtain ⟨b, hb⟩ := hxl l hl; exact ⟨b, hideF_some hb (hxf l hl)⟩
    have s := s.rek
    generalize hideF gC fpC = gB at hx6 so2 hxl6 s
    refine ha.ldN rfl (rone_spec s ⟨hgo1.1, hgo1.2.1⟩ (by omega) (by omega) fun v g19 n19 fp19 s => ?_)
    have next : ∀ (t' : Env) (g' : G) (n' : Nat) (x' : Value), t' 0 = ptr lb 0 → t' 4 = ptr n 0 → t' 5 = ptr (n + 1) 0 → t' 6 = .int .i64 (B.marks.length : Nat) → t' 7 = .int .i64 (B.mark.marks.length : Nat) → t' 8 = .int .i64 (B.mark.mark.marks.length : Nat) → t' 9 = x' → t' 10 = .int .i64 (j : Nat) →
        Sg RbH lb gA g' fp19 (opB h B.marks.length (B.mark.marks.length : Nat) ((t.ops.take j).foldl (opB h B.marks.length (B.mark.marks.length : Nat)) (headB B)) o) (k + 7 + 30 * j + 30) (m + 4 + 2 * j + 2) → OwnS enc1 1 none0 g' x' (wsR (t.ops.take (j + 1))) → (∀ l ∈ blks x', gA l = none) → (∀ l ∈ blks x', l ∉ fp19) → (∀ l ∈ blks x', ∃ b, g' l = some b) → bellowsref25_whole_j2 AC K I t' g' n' := by
      intro t' g' n' x' q0 q4 q5 q6 q7 q8 q9 q10 s q11 q12 q13 q14
      simp only [bellowsref25_whole_j2, q10]
      rw [kBin_add, wrapNat (by omega)]
      exact ih (mm - 1) _ _ _ (by omega) ⟨j + 1, fp19, x', by omega, q0, q4, q5, q6, q7, q8, q9, rfl, by rw [hft]; exact s.up (by omega) (by omega), q11, q12, q13, q14⟩
    have hoB := so2.live hKo
    have hx19 : ∀ l ∈ blks x, l ∉ fp19 := fun l hl hm => by
      obtain ⟨b, hb⟩ := hxl6 l hl
      rw [s.hd l hm] at hb; cases hb
    refine kLd_of (s.hs.live hoB) rfl (((ho.mono so2).mono s.hs).idx encO_len hget (fun l o1 ha => ?_))
    simp only [kPtr_p]
    refine ha.ld (i := 0) rfl ?_
    rw [kBin_neq]
    refine kSplit_d (fun hk1 => ?_) (fun hk1 => ?_)
    · refine kLd_of (s.hs.live hoB) rfl (((ho.mono so2).mono s.hs).idx encO_len hget (fun l o1 ha => ?_))
      simp only [kPtr_p]
      refine ha.ld (i := 1) rfl (fill11 o.w fun hn20 => ?_)
      have s20 := (Sub.refl g19).new hn20 (some (.cells (enc1 o.w) .exact))
      have hone : Sl enc1 1 (upd g19 n19 (some (.cells (enc1 o.w) .exact))) (.slice (some ⟨n19, 0, none⟩) 1 1) [o.w] := Sl.one rfl (upd_same _ _ _)
      have s := s.rsub s20
      have hlw := wsR_len (t.ops.take j)
      rw [List.length_take] at hlw
      refine own_app (g := upd g19 n19 (some (.cells (enc1 o.w) .exact))) (hx6.mono s.hs) hone enc1_cell (by decide) (by simp; omega) (by simp; omega) (by simp) fun x' g21 n21 hox hkp hfr => ?_
      refine next _ _ _ x' t0 t4 t5 t6 t7 t8 rfl t10 ⟨s.b.keep fun l b hl hm => hkp l b hl fun hmx => hx19 l hmx hm, fun l => ?_, fun l hl => so2.none (s.hd l hl), s.bk⟩ ?_ (fun l hl => so2.none (s.hs.none (hfr l hl))) (fun l hl hm => ?_) (fun l hl => hox.there l hl (by simp))
      · cases hq : gA l with
        | none => exact .inl rfl
        | some b => exact .inr (hkp l b (s.hs.live (so2.live hq)) fun hmx => by rw [hxK l hmx] at hq; cases hq).symm
      · rw [hwt, if_pos hk1]; exact hox
      · obtain ⟨b, hb⟩ := s.b.live l hm
        rw [hfr l hl] at hb; cases hb
    · refine next _ _ _ x t0 t4 t5 t6 t7 t8 t9 t10 (s.back so2) ?_ hxK hx19 (fun l hl => ?_)
      · rw [hwt, if_neg hk1, List.append_nil]; exact hx6.mono s.hs
      · obtain ⟨b, hb⟩ := hxl6 l hl
        exact ⟨b, s.hs.live hb⟩
  · have hje : t.ops.take j = t.ops := List.take_of_length_le (by omega)
    have hjl : j ≤ 16 := by omega
    rw [hje] at s hx
    refine whole_j3 (x := x) (ws := wsR t.ops) s hKh hKo (by omega) (by omega) t0 t4 t5 t6 t7 t8 t9 (hide_own hx hxf).sl (by have := wsR_len t.ops; omega) fun _ _ _ fpZ s => hK _ _ _ fpZ ?_
    have e : tailB h t.abort (wsR t.ops) B.marks.length (B.mark.marks.length : Nat) (B.mark.mark.marks.length : Nat) (t.ops.foldl (opB h B.marks.length (B.mark.marks.length : Nat)) (headB B)) = txB h t B := by
      unfold txB tailB midB
      rw [commit_ws]
    rw [← e]
    exact (s.back so).up (by omega) (by omega)
end Go.Proofs.YtecojalpbppfeaaGreat.Gen

namespace Go.Proofs.YtecojalpbppfeaaGreat.Gen
open Go Go.Proofs.YtecojalpbppfeaaGreat.Abs Go.RowKit
/-! ## the code of good transactions has a form -/
def okIt (p : Ins × Int) : Prop := if 0 ≤ p.2 then (∀ v, 0 ≤ v → v ≤ 2000000 → goodI { p.1 with imm := v } = true) else goodI p.1 = true
structure WB (B : Bd) (O : Nat → Prop) : Prop where
  nb : B.bad = false
  it : ∀ p ∈ B.items, okIt p ∧ p.2 < B.marks.length
  ms : ∀ i : Nat, i < B.marks.length → ¬ O i → 0 ≤ B.marks.getD i 0 ∧ B.marks.getD i 0 ≤ B.items.length
  op : ∀ i : Nat, O i → i < B.marks.length ∧ B.marks.getD i 0 = -1
variable {B : Bd} {O O' : Nat → Prop} {h : Hp}
theorem WB.congr (w : WB B O) (e : ∀ i, O i ↔ O' i) : WB B O' := ⟨w.nb, w.it, fun i hi hn => w.ms i hi (fun ho => hn ((e i).1 ho)), fun i ho => w.op i ((e i).2 ho)⟩
theorem WB.add (w : WB B O) {ys : List Ins} (hy : ∀ i ∈ ys, goodI i = true) : WB (B.add ys) O := by
  refine ⟨w.nb, fun p hp => ?_, fun i hi hn => ?_, w.op⟩
  · simp only [Bd.add, List.mem_append, List.mem_map] at hp
    rcases hp with hp | ⟨i, hi, rfl⟩
    · exact w.it p hp
    · refine ⟨?_, by show (-1 : Int) < B.marks.length; omega⟩
      unfold okIt; rw [if_neg (show ¬ ((0 : Int) ≤ -1) by decide)]; exact hy i hi
  · obtain ⟨h1, h2⟩ := w.ms i hi hn
    refine ⟨h1, Int.le_trans h2 ?_⟩
    simp [Bd.add]; omega
theorem WB.mark (w : WB B O) : WB B.mark (fun i => i = B.marks.length ∨ O i) := by
  have el : B.mark.marks.length = B.marks.length + 1 := by simp [Bd.mark]
  have eg : ∀ i, i < B.marks.length → B.mark.marks.getD i 0 = B.marks.getD i 0 := fun i hi => by simp [Bd.mark, List.getD_eq_getElem?_getD, List.getElem?_append, hi]
  refine ⟨w.nb, fun p hp => ⟨(w.it p hp).1, by rw [el]; have := (w.it p hp).2; omega⟩, fun i hi hn => ?_, fun i ho => ?_⟩
  · have hi2 : i < B.marks.length := by rw [el] at hi; have : i ≠ B.marks.length := fun e => hn (.inl e); omega
    rw [eg i hi2]; exact w.ms i hi2 (fun ho => hn (.inr ho))
  · rcases ho with rfl | ho
    · exact ⟨by rw [el]; omega, by simp [Bd.mark, List.getD_eq_getElem?_getD]⟩
    · obtain ⟨h1, h2⟩ := w.op i ho
      exact ⟨by rw [el]; omega, by rw [eg i h1]; exact h2⟩
theorem WB.here (w : WB B O) {i : Nat} (hi : O i) : WB (B.here i) (fun j => O j ∧ j ≠ i) := by
  obtain ⟨h1, h2⟩ := w.op i hi
  have e : B.here i = { B with marks := B.marks.set i B.items.length } := by
    unfold Bd.here; rw [if_pos ⟨by omega, by omega, by rw [Int.toNat_natCast, h2]; decide⟩, Int.toNat_natCast]
  rw [e]
  have eg : ∀ j, j ≠ i → (B.marks.set i (B.items.length : Int)).getD j 0 = B.marks.getD j 0 := fun j hj => by simp [List.getD_eq_getElem?_getD, List.getElem?_set, show ¬ i = j from fun e => hj e.symm]
  have es : (B.marks.set i (B.items.length : Int)).getD i 0 = B.items.length := by simp [List.getD_eq_getElem?_getD, h1]
  refine ⟨w.nb, fun p hp => ⟨(w.it p hp).1, by simpa using (w.it p hp).2⟩, fun j hj hn => ?_, fun j ho => ?_⟩
  · by_cases ej : j = i
    · subst ej
      show 0 ≤ (B.marks.set j (B.items.length : Int)).getD j 0 ∧ _
      rw [es]; exact ⟨by omega, by show (B.items.length : Int) ≤ B.items.length; omega⟩
    · show 0 ≤ (B.marks.set i (B.items.length : Int)).getD j 0 ∧ _
      rw [eg j ej]
      exact w.ms j (by simpa using hj) (fun ho => hn ⟨ho, ej⟩)
  · obtain ⟨h3, h4⟩ := w.op j ho.1
    exact ⟨by simpa using h3, by show (B.marks.set i (B.items.length : Int)).getD j 0 = -1; rw [eg j ho.2]; exact h4⟩
theorem WB.jump (w : WB B O) {i : Ins} {m : Nat} (hm : m < B.marks.length) (hop : 17 ≤ i.op ∧ i.op ≤ 20) (hg : ∀ v, 0 ≤ v → v ≤ 2000000 → goodI { i with imm := v } = true) : WB (B.jump i m) O := by
  have e : B.jump i m = { B with items := B.items ++ [(i, (m : Int))] } := by unfold Bd.jump; rw [if_pos ⟨by omega, by omega, hop⟩]
  rw [e]
  refine ⟨w.nb, fun p hp => ?_, fun j hj hn => ?_, w.op⟩
  · simp only [List.mem_append, List.mem_singleton] at hp
    rcases hp with hp | rfl
    · exact w.it p hp
    · refine ⟨?_, by show (m : Int) < B.marks.length; omega⟩
      unfold okIt; rw [if_pos (by show (0 : Int) ≤ (m : Int); omega)]; exact hg
  · obtain ⟨h1, h2⟩ := w.ms j hj hn
    refine ⟨h1, Int.le_trans h2 ?_⟩
    simp; omega
theorem jump_marks (B : Bd) (i : Ins) (m : Int) : (B.jump i m).marks = B.marks := (Bd.jump_n B i m).2
theorem add_marks (B : Bd) (l : List Ins) : (B.add l).marks = B.marks := rfl
theorem here_len (B : Bd) (m : Int) : (B.here m).marks.length = B.marks.length := (Bd.here_n B m).2
theorem mark_len (B : Bd) : B.mark.marks.length = B.marks.length + 1 := by simp [Bd.mark]
/-- done, or too many -/
theorem WB.fin (w : WB B fun _ => False) (hs : B.items.length ≤ 1000000) : B.done.2 = 0 ∨ B.done = ([], 3) := by
  have hm : ∀ p ∈ B.items, 0 ≤ p.2 → 0 ≤ B.marks.getD p.2.toNat 0 ∧ B.marks.getD p.2.toNat 0 ≤ B.items.length := fun p hp h0 => by
    have := (w.it p hp).2
    exact w.ms _ (by omega) id
  have hw : (words (B.items.map B.fix)).2 = true := by
    apply words_all
    intro i hi
    obtain ⟨p, hp, rfl⟩ := List.mem_map.1 hi
    have h1 := (w.it p hp).1
    unfold okIt at h1
    unfold Bd.fix
    by_cases h0 : 0 ≤ p.2
    · rw [if_pos h0] at h1 ⊢
      obtain ⟨h2, h3⟩ := hm p hp h0
      exact h1 _ h2 (by omega)
    · rw [if_neg h0] at h1 ⊢; exact h1
  unfold Bd.done
  rw [if_neg (by rw [w.nb]; decide), if_neg, if_neg (by rw [hw]; decide)]
  · split
    · exact .inr rfl
    · exact .inl rfl
  · intro hany
    obtain ⟨p, hp, h1⟩ := List.any_eq_true.1 hany
    simp only [Bool.and_eq_true, decide_eq_true_eq] at h1
    have := (hm p hp h1.1).1
    omega
/-! pieces -/
theorem gLi {r x : Int} (hr : 0 ≤ r ∧ r ≤ 7) (h0 : 0 ≤ x) (h1 : x ≤ 2147483647) : goodI (liI r x) = true := by
  have e : IntKind.i64.wrap x = x := wrap64_of (by omega) (by omega)
  have e1 : hasL 1 65 = true := by decide
  have e2 : hasL 1 66 = false := by decide
  have e3 : hasL 1 67 = false := by decide
  have e4 : hasL 1 73 = true := by decide
  simp only [goodI, liI, e, e1, e2, e3, e4, regOk, immOk]
  simp
  omega
theorem wordH_le (h : Hp) (w : Int) : 0 ≤ wordH h w ∧ wordH h w < 1000000 := by unfold wordH; split; exact addrA_le _ _; omega
theorem gAt (h : Hp) (w : Int) : goodI (atI h w) = true := gLi (by omega) (wordH_le h w).1 (by have := (wordH_le h w).2; omega)
theorem gJmp (v : Int) (h0 : 0 ≤ v) (h1 : v ≤ 2000000) : goodI { jmpI with imm := v } = true := by
  have e1 : hasL 17 65 = false := by decide
  have e2 : hasL 17 66 = false := by decide
  have e3 : hasL 17 67 = false := by decide
  have e4 : hasL 17 73 = true := by decide
  simp only [goodI, jmpI, e1, e2, e3, e4, regOk, immOk]
  simp
  omega
theorem gBeq (v : Int) (h0 : 0 ≤ v) (h1 : v ≤ 2000000) : goodI { (⟨18, 7, 0, 0, 0⟩ : Ins) with imm := v } = true := by
  have e1 : hasL 18 65 = true := by decide
  have e2 : hasL 18 66 = true := by decide
  have e3 : hasL 18 67 = false := by decide
  have e4 : hasL 18 73 = true := by decide
  simp only [goodI, e1, e2, e3, e4, regOk, immOk]
  simp
  omega
theorem gBne (a : Int) (ha : a = 4 ∨ a = 2) (v : Int) (h0 : 0 ≤ v) (h1 : v ≤ 2000000) : goodI { (⟨19, a, 0, 0, 0⟩ : Ins) with imm := v } = true := by
  have e1 : hasL 19 65 = true := by decide
  have e2 : hasL 19 66 = true := by decide
  have e3 : hasL 19 67 = false := by decide
  have e4 : hasL 19 73 = true := by decide
  simp only [goodI, e1, e2, e3, e4, regOk, immOk]
  simp
  omega
theorem gEntry (h : Hp) : ∀ i ∈ entryL h, goodI i = true := by
  intro i hi
  have he := entryH_le h
  simp only [entryL, List.mem_cons, List.not_mem_nil, or_false] at hi
  rcases hi with rfl | rfl | rfl | rfl
  · exact gLi (by omega) (by omega) (by omega)
  · decide
  · exact gLi (by omega) (by omega) (by omega)
  · decide
theorem gNought (h : Hp) : ∀ i ∈ noughtL h, goodI i = true := by
  intro i hi
  have he := countH_le h
  simp only [noughtL, List.mem_cons, List.not_mem_nil, or_false] at hi
  rcases hi with rfl | rfl | rfl | rfl | rfl | rfl
  · decide
  · exact gLi (by omega) (by omega) (by omega)
  · exact gLi (by omega) (by omega) (by omega)
  · decide
  · decide
  · decide
theorem WB.note (w : WB B O) {x : Int} {f : Nat} (hf : f < B.marks.length) : WB (noteB h x f B) O ∧ (noteB h x f B).marks.length = B.marks.length := by
  unfold noteB
  split
  · have hr := roomH_le h
    have hc := countH_le h
    have hw := wordH_le h x
    refine ⟨?_, by rw [add_marks, add_marks, add_marks, jump_marks, add_marks]⟩
    refine ((((w.add (ys := [liI 0 (roomH h)]) ?_).jump (m := f) hf (by decide) gBeq).add (gEntry h)).add ?_).add ?_
    · intro i hi; rw [List.mem_singleton.1 hi]; exact gLi (by omega) (by omega) (by omega)
    · intro i hi
      simp only [List.mem_cons, List.not_mem_nil, or_false] at hi
      rcases hi with rfl | rfl | rfl | rfl | rfl | rfl
      · exact gLi (by omega) (by omega) (by omega)
      all_goals decide
    · intro i hi
      simp only [List.mem_cons, List.not_mem_nil, or_false] at hi
      rcases hi with rfl | rfl | rfl | rfl | rfl | rfl
      · exact gLi (by omega) (by omega) (by omega)
      · decide
      · exact gLi (by omega) (by omega) (by omega)
      all_goals decide
  · exact ⟨w, rfl⟩
end Go.Proofs.YtecojalpbppfeaaGreat.Gen

namespace Go.Proofs.YtecojalpbppfeaaGreat.Gen
open Go Go.Proofs.YtecojalpbppfeaaGreat.Abs Go.RowKit
variable {B : Bd} {O O' : Nat → Prop} {h : Hp}
theorem WB.back (w : WB B O) : WB (backB h B) O ∧ B.marks.length ≤ (backB h B).marks.length := by
  unfold backB
  split
  · have hl := mark_len B
    have w1 := w.mark.mark.here (i := B.marks.length) (.inr (.inl rfl))
    have w2 := (w1.add (ys := [liI 0 0]) (by intro i hi; rw [List.mem_singleton.1 hi]; exact gLi (by omega) (by omega) (by omega))).jump (i := ⟨18, 7, 0, 0, 0⟩) (m := B.mark.marks.length) (by rw [add_marks, here_len]; have := mark_len B.mark; omega) (by decide) gBeq
    have w3 := (w2.add (ys := [liI 0 1, ⟨3, 7, 7, 0, 0⟩]) (by
      intro i hi
      simp only [List.mem_cons, List.not_mem_nil, or_false] at hi
      rcases hi with rfl | rfl
      · exact gLi (by omega) (by omega) (by omega)
      · decide)).add (gEntry h)
    have w4 := (w3.add (ys := [⟨8, 1, 6, 0, 0⟩, ⟨8, 4, 6, 0, 8⟩, ⟨9, 4, 1, 0, 0⟩, ⟨12, 0, 1, 0, 0⟩]) (by decide)).jump (i := jmpI) (m := B.marks.length) (by rw [add_marks, add_marks, add_marks, jump_marks, add_marks, here_len, mark_len, mark_len]; omega) (by decide) gJmp
    have w5 := (w4.here (i := B.mark.marks.length) ⟨.inl rfl, by omega⟩).add (gNought h)
    refine ⟨w5.congr fun i => ⟨fun hi => ?_, fun hi => ?_⟩, ?_⟩
    · obtain ⟨⟨h1 | h1 | h1, h2⟩, h3⟩ := hi
      · exact absurd h1 h3
      · exact absurd h1 h2
      · exact h1
    · have := (w.op i hi).1
      exact ⟨⟨.inr (.inr hi), by omega⟩, by omega⟩
    · rw [add_marks, here_len, jump_marks, add_marks, add_marks, add_marks, jump_marks, add_marks, here_len, mark_len, mark_len]; omega
  · exact ⟨w, Nat.le_refl _⟩
theorem gCl (h : Hp) (hG : GoodH h) (ws : List Int) : ∀ i ∈ clL (lineL h ws), goodI i = true := by
  obtain ⟨⟨_, _, _, h4, h5, h6, _⟩, h7, h8, h9, h10, h11⟩ := hG
  intro i hi
  simp only [clL, List.mem_flatMap, List.mem_cons, List.not_mem_nil, or_false] at hi
  obtain ⟨a, ha, rfl | rfl⟩ := hi
  · simp only [lineL, List.mem_map, List.mem_filter, List.mem_range] at ha
    obtain ⟨l, ⟨hl, _⟩, rfl⟩ := ha
    exact gLi (by omega) (by omega) (by omega)
  · decide
theorem WB.commit (w : WB B O) {ws : List Int} : WB (commitB h ws B) O ∧ (commitB h ws B).marks.length = B.marks.length := by
  unfold commitB
  split
  · rename_i hG
    exact ⟨(w.add (gCl h hG ws)).add (gNought h), by rw [add_marks, add_marks]⟩
  · exact ⟨w, rfl⟩
theorem WB.take (w : WB B O) : WB (takeB B 0) O ∧ (takeB B 0).marks.length = B.marks.length + 1 := by
  unfold takeB
  rw [if_neg (by decide)]
  have hl := mark_len B
  have w1 := w.mark.here (i := B.marks.length) (.inl rfl)
  have w2 := (w1.add (ys := [liI 1 0, liI 2 0, liI 3 1, ⟨10, 2, 1, 3, 0⟩, liI 0 0]) (by
      intro i hi
      simp only [List.mem_cons, List.not_mem_nil, or_false] at hi
      rcases hi with rfl | rfl | rfl | rfl | rfl
      · exact gLi (by omega) (by omega) (by omega)
      · exact gLi (by omega) (by omega) (by omega)
      · exact gLi (by omega) (by omega) (by omega)
      · decide
      · exact gLi (by omega) (by omega) (by omega))).jump (i := ⟨19, 2, 0, 0, 0⟩) (m := B.marks.length) (by rw [add_marks, here_len, mark_len]; omega) (by decide) (gBne 2 (.inr rfl))
  refine ⟨w2.congr fun i => ⟨fun hi => ?_, fun hi => ?_⟩, ?_⟩
  · obtain ⟨h1 | h1, h2⟩ := hi
    · exact absurd h1 h2
    · exact h1
  · have := (w.op i hi).1
    exact ⟨.inr hi, by omega⟩
  · rw [jump_marks, add_marks, here_len, mark_len]
theorem WB.give (w : WB B O) : WB (giveB B 0) O ∧ (giveB B 0).marks.length = B.marks.length := by
  unfold giveB
  rw [if_neg (by decide)]
  refine ⟨w.add ?_, rfl⟩
  intro i hi
  simp only [List.mem_cons, List.not_mem_nil, or_false] at hi
  rcases hi with rfl | rfl | rfl
  · exact gLi (by omega) (by omega) (by omega)
  · exact gLi (by omega) (by omega) (by omega)
  · decide
theorem WB.tko {o : OpT} {fu : Nat} (w : WB B O) (hf : fu < B.marks.length) (hv : 0 ≤ o.v ∧ o.v ≤ 2147483647) : WB (takeO h fu o B) O ∧ B.marks.length ≤ (takeO h fu o B).marks.length := by
  unfold takeO
  have hl := mark_len B
  have w1 := (w.mark.mark.add (ys := [atI h o.w, ldI1, liI 0 0]) (by
      intro i hi
      simp only [List.mem_cons, List.not_mem_nil, or_false] at hi
      rcases hi with rfl | rfl | rfl
      · exact gAt h _
      · decide
      · exact gLi (by omega) (by omega) (by omega))).jump (i := ⟨19, 4, 0, 0, 0⟩) (m := B.marks.length) (by rw [add_marks, mark_len, mark_len]; omega) (by decide) (gBne 4 (.inl rfl))
  obtain ⟨w2, e2⟩ := w1.note (h := h) (x := o.w) (f := fu) (by rw [jump_marks, add_marks, mark_len, mark_len]; omega)
  have el : ((B.mark.mark.add [atI h o.w, ldI1, liI 0 0]).jump ⟨19, 4, 0, 0, 0⟩ B.marks.length).marks.length = B.marks.length + 2 := by rw [jump_marks, add_marks, mark_len, mark_len]
  rw [el] at e2
  have w3 := (w2.add (ys := [atI h o.w, liI 4 o.v, stI1, liI 4 1, tellI 4]) (by
      intro i hi
      simp only [List.mem_cons, List.not_mem_nil, or_false] at hi
      rcases hi with rfl | rfl | rfl | rfl | rfl
      · exact gAt h _
      · exact gLi (by omega) hv.1 hv.2
      · decide
      · exact gLi (by omega) (by omega) (by omega)
      · decide)).jump (i := jmpI) (m := B.mark.marks.length) (by rw [add_marks, e2]; omega) (by decide) gJmp
  have w4 := (w3.here (i := B.marks.length) (.inr (.inl rfl))).add (ys := [liI 4 0, tellI 4]) (by
      intro i hi
      simp only [List.mem_cons, List.not_mem_nil, or_false] at hi
      rcases hi with rfl | rfl
      · exact gLi (by omega) (by omega) (by omega)
      · decide)
  have w5 := w4.here (i := B.mark.marks.length) ⟨.inl rfl, by omega⟩
  refine ⟨w5.congr fun i => ⟨fun hi => ?_, fun hi => ?_⟩, ?_⟩
  · obtain ⟨⟨h1 | h1 | h1, h2⟩, h3⟩ := hi
    · exact absurd h1 h3
    · exact absurd h1 h2
    · exact h1
  · have := (w.op i hi).1
    exact ⟨⟨.inr (.inr hi), by omega⟩, by omega⟩
  · rw [here_len, add_marks, here_len, jump_marks, add_marks, e2]; omega
theorem WB.opS {o : OpT} {fu ba : Nat} (w : WB B O) (hf : fu < B.marks.length) (hb : ba < B.marks.length) (hg : GoodO o) (h0 : 0 ≤ o.v) : WB (opB h fu ba B o) O ∧ B.marks.length ≤ (opB h fu ba B o).marks.length := by
  obtain ⟨_, _, hv, _, _⟩ := hg
  have hv : 0 ≤ o.v ∧ o.v ≤ 2147483647 := by omega
  unfold opB
  split
  · unfold doB
    split
    · refine ⟨w.add ?_, Nat.le_refl _⟩
      intro i hi
      simp only [List.mem_cons, List.not_mem_nil, or_false] at hi
      rcases hi with rfl | rfl | rfl
      · exact gAt h _
      · decide
      · decide
    · split
      · obtain ⟨w1, e1⟩ := w.note (h := h) (x := o.w) hf
        refine ⟨w1.add ?_, by show _ ≤ (noteB h o.w fu B).marks.length; omega⟩
        intro i hi
        simp only [List.mem_cons, List.not_mem_nil, or_false] at hi
        rcases hi with rfl | rfl | rfl
        · exact gAt h _
        · exact gLi (by omega) hv.1 hv.2
        · decide
      · split
        · obtain ⟨w1, e1⟩ := w.note (h := h) (x := o.w) hf
          refine ⟨w1.add ?_, by show _ ≤ (noteB h o.w fu B).marks.length; omega⟩
          intro i hi
          simp only [List.mem_cons, List.not_mem_nil, or_false] at hi
          rcases hi with rfl | rfl | rfl | rfl | rfl | rfl
          · exact gAt h _
          · decide
          · exact gLi (by omega) hv.1 hv.2
          · decide
          · decide
          · decide
        · exact w.tko hf hv
  · refine ⟨(w.add (ys := [liI 5 103]) ?_).jump (m := ba) (by rw [add_marks]; exact hb) (by decide) gJmp, by rw [jump_marks, add_marks]; exact Nat.le_refl _⟩
    intro i hi; rw [List.mem_singleton.1 hi]; exact gLi (by omega) (by omega) (by omega)
theorem WB.ops {h : Hp} {O : Nat → Prop} {fu ba : Nat} : ∀ (l : List OpT) (B : Bd), WB B O → fu < B.marks.length → ba < B.marks.length → (∀ o ∈ l, GoodO o ∧ 0 ≤ o.v) → WB (l.foldl (opB h fu ba) B) O ∧ B.marks.length ≤ (l.foldl (opB h fu ba) B).marks.length
  | [], B, w, _, _, _ => ⟨w, Nat.le_refl _⟩
  | o :: l, B, w, hf, hb, hg => by
    obtain ⟨g1, g2⟩ := hg o (by simp)
    obtain ⟨w1, e1⟩ := w.opS (h := h) hf hb g1 g2
    obtain ⟨w2, e2⟩ := WB.ops (h := h) (fu := fu) (ba := ba) l (opB h fu ba B o) w1 (by omega) (by omega) (fun o ho => hg o (by simp [ho]))
    exact ⟨w2, Nat.le_trans e1 e2⟩
theorem WB.li1 (w : WB B O) (r x : Int) (hr : 0 ≤ r ∧ r ≤ 7) (h0 : 0 ≤ x) (h1 : x ≤ 2147483647) : WB (B.add [liI r x]) O :=
  w.add (by intro i hi; rw [List.mem_singleton.1 hi]; exact gLi hr h0 h1)
theorem WB.tx {t : TxT} (w : WB B O) (hg : ∀ o ∈ t.ops, GoodO o ∧ 0 ≤ o.v) : WB (txB h t B) O := by
  unfold txB midB headB
  have l1 := mark_len B
  have l2 := mark_len B.mark
  have l3 := mark_len B.mark.mark
  have w1 := w.mark.mark.mark
  obtain ⟨w2, e2⟩ := w1.take
  have w3 := w2.li1 7 0 (by omega) (by omega) (by omega)
  obtain ⟨w4, e4⟩ := WB.ops (h := h) (fu := B.marks.length) (ba := B.mark.marks.length) t.ops _ w3 (by rw [add_marks, e2]; omega) (by rw [add_marks, e2]; omega) hg
  rw [add_marks, e2] at e4
  generalize t.ops.foldl (opB h B.marks.length (B.mark.marks.length : Nat)) ((takeB B.mark.mark.mark 0).add [liI 7 0]) = C at w4 e4
  unfold tailB
  have w5 : WB (if t.abort = true then (C.add [liI 5 104]).jump jmpI (B.mark.marks.length : Nat) else ((commitB h (wsP h t.ops) C).add [liI 5 101]).jump jmpI (B.mark.mark.marks.length : Nat)) (fun i => i = B.mark.mark.marks.length ∨ i = B.mark.marks.length ∨ i = B.marks.length ∨ O i) ∧ C.marks.length ≤ (if t.abort = true then (C.add [liI 5 104]).jump jmpI (B.mark.marks.length : Nat) else ((commitB h (wsP h t.ops) C).add [liI 5 101]).jump jmpI (B.mark.mark.marks.length : Nat)).marks.length := by
    split
    · exact ⟨(w4.li1 5 104 (by omega) (by omega) (by omega)).jump (by rw [add_marks]; omega) (by decide) gJmp, by rw [jump_marks, add_marks]; exact Nat.le_refl _⟩
    · obtain ⟨w6, e6⟩ := w4.commit (h := h) (ws := wsP h t.ops)
      exact ⟨(w6.li1 5 101 (by omega) (by omega) (by omega)).jump (by rw [add_marks, e6]; omega) (by decide) gJmp, by rw [jump_marks, add_marks, e6]; exact Nat.le_refl _⟩
  generalize (if t.abort = true then (C.add [liI 5 104]).jump jmpI (B.mark.marks.length : Nat) else ((commitB h (wsP h t.ops) C).add [liI 5 101]).jump jmpI (B.mark.mark.marks.length : Nat)) = D at w5
  obtain ⟨w5, e5⟩ := w5
  have w6 := ((w5.here (i := B.marks.length) (.inr (.inr (.inl rfl)))).li1 5 102 (by omega) (by omega) (by omega)).here (i := B.mark.marks.length) ⟨.inr (.inl rfl), by omega⟩
  obtain ⟨w7, e7⟩ := w6.back (h := h)
  have w8 := w7.here (i := B.mark.mark.marks.length) ⟨⟨.inl rfl, by omega⟩, by omega⟩
  obtain ⟨w9, e9⟩ := w8.give
  have w10 := w9.add (ys := [tellI 5]) (by decide)
  refine w10.congr fun i => ⟨fun hi => ?_, fun hi => ?_⟩
  · obtain ⟨⟨⟨h1 | h1 | h1 | h1, h2⟩, h3⟩, h4⟩ := hi
    · exact absurd h1 h4
    · exact absurd h1 h3
    · exact absurd h1 h2
    · exact h1
  · have := (w.op i hi).1
    exact ⟨⟨⟨.inr (.inr (.inr hi)), by omega⟩, by omega⟩, by omega⟩
/-! ## the code -/
def codeB (h : Hp) (l : List TxT) : Bd := (l.foldl (fun B t => txB h t B) B0).add [⟨22, 0, 0, 0, 0⟩]
theorem WB.txs {h : Hp} {O : Nat → Prop} : ∀ (l : List TxT) (B : Bd), WB B O → (∀ t ∈ l, ∀ o ∈ t.ops, GoodO o ∧ 0 ≤ o.v) → WB (l.foldl (fun B t => txB h t B) B) O
  | [], _, w, _ => w
  | t :: l, B, w, hg => WB.txs l _ (w.tx (hg t (by simp))) fun t ht => hg t (by simp [ht])
theorem WB.b0 : WB B0 (fun _ => False) := ⟨rfl, by simp [B0], by simp [B0], fun _ h => h.elim⟩
theorem code_done {l : List TxT} (hg : ∀ t ∈ l, ∀ o ∈ t.ops, GoodO o ∧ 0 ≤ o.v) (hs : (codeB h l).items.length ≤ 1000000) : (codeB h l).done.2 = 0 ∨ (codeB h l).done = ([], 3) :=
  ((WB.txs l B0 WB.b0 hg).add (ys := [⟨22, 0, 0, 0, 0⟩]) (by decide)).fin hs
/-- what Code answers -/
def codeD (h : Hp) (l : List TxT) : List Int × Int :=
  if ¬ GoodH h then ([], 1) else if ¬ (∀ t ∈ l, GoodT t.ops) then ([], 11) else if 8 < l.length then ([], 3) else (codeB h l).done
end Go.Proofs.YtecojalpbppfeaaGreat.Gen

namespace Go.Proofs.YtecojalpbppfeaaGreat.Abs
open Go Go.RowKit
variable {g : G} {n : Nat}
section
variable {α : Type} {R : G → List Value → α → Prop} {z : Nat} {v : Value} {xs : List α}
/-! ## what is built anew -/
def Dif (gS g gH : G) : Prop := ∀ l b, g l = some b → gS l = none → gH l = some b
theorem Dif.refl (gS g : G) : Dif gS g g := fun _ _ h _ => h
def hideV (g : G) (v : Value) : G := fun l => if l ∈ blks v then none else g l
theorem hideV_some {l : Nat} {b : Blk} : hideV g v l = some b ↔ l ∉ blks v ∧ g l = some b := by
  unfold hideV; by_cases h : l ∈ blks v <;> simp [h]
structure BB (R : G → List Value → α → Prop) (z : Nat) (gS g : G) (v : Value) (xs : List α) : Prop where
  els : ∃ els : List (List Value), Own none0 g v z els.length els.flatten ∧ els.length = xs.length ∧ ∀ (i : Nat) c x, els[i]? = some c → xs[i]? = some x → c.length = z ∧ (∀ gH, Dif gS (hideV g v) gH → R gH c x)
  sub : Sub gS (hideV g v)
  live : ∀ l ∈ blks v, ∃ b, g l = some b
theorem BB.nil (gS : G) : BB R z gS gS (.slice none 0 0) [] :=
  ⟨⟨[], Own.nil _ _ _, rfl, by simp⟩, by intro l; right; simp [hideV, blks, blkOf], by simp [blks, blkOf]⟩
theorem BB.sub' {gS : G} (h : BB R z gS g v xs) : Sub gS g := fun l => by
  rcases h.sub l with h1 | h1
  · exact .inl h1
  · unfold hideV at h1
    by_cases hl : l ∈ blks v
    · rw [if_pos hl] at h1; exact .inl h1
    · rw [if_neg hl] at h1; exact .inr h1
/-- a row more, whose own slices are new -/
theorem BB.app {gS g1 : G} {c : List Value} {x : α} {bytes : Nat} {K : Cont} (h : BB R z gS g v xs) (s : Sub g g1) (hc : c.length = z) (hcell : ∀ v ∈ c, isCell v = true) (hR : ∀ gH, Dif g g1 gH → R gH c x) (hn : g1 n = none) (hb : bytes ≤ 1024) (hsz : xs.length ≤ 1000000)
    (hK : ∀ v' g' n', BB R z gS g' v' (xs ++ [x]) → K v' g' n') : kAppend v (.slice (some ⟨n, 0, none⟩) 1 1) z bytes (upd g1 n (some (.cells c .exact))) (n + 1) K := by
  obtain ⟨els, h1, h2, h3⟩ := h.els
  have s2 := (Sub.refl g1).new hn (some (.cells c .exact))
  have s02 := s.trans s2
  have hm : (els.length + 1) * bytes ≤ 1000001 * 1024 := Nat.mul_le_mul (by omega) hb
  have hx : Rd (upd g1 n (some (.cells c .exact))) (.slice (some ⟨n, 0, none⟩) 1 1) z 1 c := Rd.lit (upd_same _ _ _) (by omega)
  refine append_own (none0_sub _) (h1.mono s02) hx hcell (by omega) (by omega) (by omega) (fun v' g' n' _ h4 h5 h6 => ?_)
  have hk : ∀ l b, g l = some b → l ∉ blks v → g' l = some b := fun l b hl hnl => h5 l b (s02.live hl) (fun e => hnl (mem_blks.2 e))
  have hf : ∀ l ∈ blks v', g1 l = none := fun l hl => s2.none (h6 (by decide) l (mem_blks.1 hl))
  have hsH : Sub (hideV g v) (hideV g' v') := fun l => by
    cases hq : hideV g v l with
    | none => exact .inl rfl
    | some b =>
      obtain ⟨q1, q2⟩ := hideV_some.1 hq
      exact .inr (hideV_some.2 ⟨(fun hm => by rw [s.none (hf l hm)] at q2; cases q2), hk l b q2 q1⟩).symm
  refine hK v' g' n' ⟨⟨els ++ [c], by simpa using h4, by simp [h2], fun i c2 x2 hc2 hx2 => ?_⟩, h.sub.trans hsH, fun l hl => ?_⟩
  · rcases Nat.lt_or_ge i els.length with hi | hi
    · rw [List.getElem?_append_left hi] at hc2
      rw [List.getElem?_append_left (by omega)] at hx2
      obtain ⟨q1, q2⟩ := h3 i c2 x2 hc2 hx2
      exact ⟨q1, fun gH hD => q2 gH fun l b hl hS => hD l b (hsH.live hl) hS⟩
    · rw [List.getElem?_append_right hi] at hc2
      rw [List.getElem?_append_right (by omega)] at hx2
      have e1 : i - els.length = 0 := by
        rcases Nat.eq_zero_or_pos (i - els.length) with h | h
        · exact h
        · rw [List.getElem?_eq_none (by simp; omega)] at hc2; cases hc2
      have e2 : i - xs.length = 0 := by omega
      rw [e1] at hc2; rw [e2] at hx2
      simp at hc2 hx2; subst hc2; subst hx2
      refine ⟨hc, fun gH hD => hR gH fun l b hl hS => ?_⟩
      have hlv : l ∉ blks v := fun hm => by obtain ⟨b', hb'⟩ := h.live l hm; rw [hS] at hb'; cases hb'
      refine hD l b (hideV_some.2 ⟨(fun hm => by rw [hf l hm] at hl; cases hl), h5 l b (s2.live hl) (fun e => hlv (mem_blks.2 e))⟩) ?_
      exact h.sub'.none hS
  · rcases h4 with ⟨h0, _⟩ | ⟨l', c', bk, rfl, hg, _⟩
    · omega
    · simp [blks, blkOf] at hl; subst hl; exact ⟨_, hg⟩
theorem BB.done {gS : G} (h : BB R z gS g v xs) : ∀ gH, Dif gS g gH → SlR R z gH v xs := fun gH hD => by
  obtain ⟨els, h1, h2, h3⟩ := h.els
  refine ⟨els, ?_, h2, fun i c x hc hx => ?_⟩
  · have := h1.rd
    rw [h2] at this
    obtain ⟨a, cc, rfl, q1, q2, q3⟩ := this
    refine ⟨a, cc, rfl, q1, q2, fun h0 => ?_⟩
    obtain ⟨l, o, bs, bk, rfl, hg, q4⟩ := q3 h0
    refine ⟨l, o, bs, bk, rfl, hD l _ hg ?_, q4⟩
    rcases h.sub l with h4 | h4
    · exact h4
    · rw [h4]; unfold hideV; rw [if_pos (by simp [blks, blkOf])]
  · obtain ⟨q1, q2⟩ := h3 i c x hc hx
    exact ⟨q1, q2 gH fun l b hl hS => hD l b (hideV_some.1 hl).2 hS⟩
end
end Go.Proofs.YtecojalpbppfeaaGreat.Abs

namespace Go.Proofs.YtecojalpbppfeaaGreat.Gen
open Go Go.Proofs.YtecojalpbppfeaaGreat.Abs Go.RowKit
variable {g : G} {n : Nat}
def TxC (g : G) (c : List Value) (t : TxT) : Prop := ∃ v, c = [v, .bool t.abort] ∧ Sl encO 3 g v t.ops
theorem TxC.mono {g' : G} (s : Sub g g') (c : List Value) (t : TxT) (h : TxC g c t) : TxC g' c t := by
  obtain ⟨v, rfl, h⟩ := h; exact ⟨v, rfl, h.mono s⟩
theorem Sl.isCell {α : Type} {enc : α → List Value} {z : Nat} {v : Value} {xs : List α} (h : Sl enc z g v xs) : Abs.isCell v = true := by
  obtain ⟨a, c, rfl, _, ha, _⟩ := h
  rcases ha with rfl | ⟨_, _, rfl⟩ <;> rfl
theorem SlR.isCell {α : Type} {R : G → List Value → α → Prop} {z : Nat} {v : Value} {xs : List α} (h : SlR R z g v xs) : Abs.isCell v = true := by
  obtain ⟨els, ⟨a, c, rfl, _, ha, _⟩, _⟩ := h
  rcases ha with rfl | ⟨_, _, rfl⟩ <;> rfl
def Fair25 (ts : List TxT) : Prop := ts.length ≤ 12 ∧ ∀ t ∈ ts, t.ops.length ≤ 30
instance (ts : List TxT) : Decidable (Fair25 ts) := by unfold Fair25; infer_instance
theorem Fair25_spec {v : Value} {ts : List TxT} (hv : SlR TxC 2 g v ts) (hlen : ts.length < 4611686018427387904) {K : Cont} (hK : ∀ n', K (.bool (decide (Fair25 ts))) g n') : AC bellowslaw25_Fair_id [v] g n K := by
  refine ACalls.fold X0_mono ?_
  rw [← bellowslaw25_Fair_eq]
  simp only [bellowslaw25_Fair]
  refine lfp_ind (m := ts.length) (Inv := fun m t g2 n2 => ∃ j : Nat, m + j = ts.length ∧ g2 = g ∧ t 0 = v ∧ t 3 = .int .i64 (j : Nat) ∧ ∀ x ∈ ts.take j, x.ops.length ≤ 30) ?_ ⟨0, by omega, rfl, rfl, rfl, by simp⟩
  rintro I m t g2 n2 ih ⟨j, hm, rfl, t0, t3, hall⟩
  simp only [bellowslaw25_Fair_l1, t0, t3]
  refine hv.len ?_
  rw [kBin_lss]
  refine kSplit_d (fun hj => ?_) (fun hj => ?_)
  · have hj : j < ts.length := by omega
    have hget : ts[j]? = some ts[j] := List.getElem?_eq_getElem hj
    generalize ts[j] = x at hget
    refine hv.idx hget (fun l o c ha hc hx => ?_)
    obtain ⟨vo, rfl, ho⟩ := hx
    simp only [kPtr_p]
    refine ha.ld (i := 0) rfl (ho.len ?_)
    rw [kBin_gtr]
    refine kSplit_d (fun h30 => ?_) (fun h30 => ?_)
    · have := hK n2
      rw [decide_eq_false (fun h : Fair25 ts => by have := h.2 _ (List.mem_of_getElem? hget); omega)] at this
      exact aRet_of (Sub.refl _) this
    · rw [kBin_add, wrap64_of (by omega) (by omega), show ((j : Nat) : Int) + 1 = ((j + 1 : Nat) : Int) by omega]
      refine ih (m - 1) _ _ _ (by omega) ⟨j + 1, by omega, rfl, t0, rfl, fun y hy => ?_⟩
      rw [take_add hget] at hy
      rcases List.mem_append.1 hy with hy | hy
      · exact hall y hy
      · simp at hy; subst hy; omega
  · simp only [bellowslaw25_Fair_j2]
    show kLen (t 0) _
    rw [t0]
    refine hv.len ?_
    rw [kBin_leq]
    rw [List.take_of_length_le (by omega)] at hall
    have := hK n2
    have e : decide (Fair25 ts) = decide ((ts.length : Int) ≤ 12) := by
      rw [Bool.eq_iff_iff]; simp only [decide_eq_true_eq]
      exact ⟨fun h => by have := h.1; omega, fun h => ⟨by omega, hall⟩⟩
    rw [e] at this
    exact aRet_of (Sub.refl _) this
/-- ops of one's own -/
theorem cloneO {v : Value} {xs : List OpT} {K : Cont} (hv : Sl encO 3 g v xs) (hlen : xs.length ≤ 1000000) (hn : g n = none) (hK : ∀ v' g' n', Sub g g' → (∀ gH, Dif g g' gH → Sl encO 3 gH v' xs) → K v' g' n') :
    kAppend (.slice (some ⟨n, 0, none⟩) 0 0) v 3 24 (upd g n (some (.cells (reps 0 [.int .i64 0, .int .i64 0, .int .u64 0]) .exact))) (n + 1) K := by
  have hs := (Sub.refl g).new hn (some (.cells (reps 0 [.int .i64 0, .int .i64 0, .int .u64 0]) .exact))
  generalize upd g n (some (.cells (reps 0 [.int .i64 0, .int .i64 0, .int .u64 0]) .exact)) = g1 at hs
  refine OwnS.append (g0 := g) (xs := ([] : List OpT)) (v := .slice (some ⟨n, 0, none⟩) 0 0) OwnS.empty hs (hv.mono hs) encO_cell (by decide) (by simp; omega) (by simp; omega) (fun v' g' n' h3 h4 h5 h6 => ?_)
  rw [List.nil_append] at h4
  refine hK v' g' n' h3 (fun gH hD => ?_)
  obtain ⟨a, cc, rfl, q1, q2, q3⟩ := h4.sl
  refine ⟨a, cc, rfl, q1, q2, fun h0 => ?_⟩
  obtain ⟨l, o, bs, bk, rfl, hg, q4⟩ := q3 h0
  exact ⟨l, o, bs, bk, rfl, hD l _ hg (hs.none (h6 h0 l rfl)), q4⟩
theorem fillTx {v : Value} {b : Bool} (hc : Abs.isCell v = true) (K : List Value → Prop) (k : K [v, .bool b]) : kFill [(.slice none 0 0), (.bool false)] [(0, none, v), (1, none, .bool b)] K := ⟨hc, by simp, rfl, by simp, k⟩
theorem fillTx1 {v : Value} {b : Bool} (K : List Value → Prop) (k : K [v, .bool b]) : kFill (reps 1 [(.slice none 0 0), (.bool false)]) [(0, (some 2), .agg ([v, .bool b] : List Value).toArray)] K := ⟨rfl, by simp [reps], k⟩
set_option maxHeartbeats 1000000 in
theorem Copied25_spec {v : Value} {ts : List TxT} (hv : SlR TxC 2 g v ts) (hF : Fair25 ts) {K : Cont} (hK : ∀ v' g' n', Sub g g' → (∀ gH, Dif g g' gH → SlR TxC 2 gH v' ts) → K v' g' n') : AC bellowslaw25_Copied_id [v] g n K := by
  refine ACalls.fold X0_mono ?_
  rw [← bellowslaw25_Copied_eq]
  simp only [bellowslaw25_Copied]
  have h12 := hF.1
  refine lfp_ind (m := ts.length) (Inv := fun m t g2 n2 => ∃ (j : Nat) (w : Value), m + j = ts.length ∧ t 0 = v ∧ t 3 = w ∧ t 4 = .int .i64 (j : Nat) ∧ BB TxC 2 g g2 w (ts.take j)) ?_ ⟨0, .slice none 0 0, by omega, rfl, rfl, rfl, BB.nil g⟩
  rintro I m t g2 n2 ih ⟨j, w, hm, t0, t3, t4, hB⟩
  have hv2 := hv.mono (fun c x h => TxC.mono hB.sub' c x h) hB.sub'
  simp only [bellowslaw25_Copied_l1, t0, t3, t4]
  refine hv2.len ?_
  rw [kBin_lss]
  refine kSplit_d (fun hj => ?_) (fun hj => ?_)
  · have hj : j < ts.length := by omega
    have hget : ts[j]? = some ts[j] := List.getElem?_eq_getElem hj
    generalize ts[j] = x at hget
    have hx30 := hF.2 x (List.mem_of_getElem? hget)
    refine hv2.idx hget (fun l o c ha hc hx => ?_)
    obtain ⟨vo, rfl, ho⟩ := hx
    simp only [kPtr_p]
    refine ha.ld (i := 0) rfl (hv2.idx hget (fun l2 o2 c2 ha2 hc2 hx2 => ?_))
    obtain ⟨vo2, rfl, ho2⟩ := hx2
    simp only [kPtr_p]
    refine ha2.ld (i := 1) rfl ?_
    rw [kFill_nil]
    intro hn2
    obtain ⟨bs1, bk1, e1, _⟩ := id ha
    obtain ⟨bs2, bk2, e2, _⟩ := id ha2
    refine ⟨upd_ne _ _ (ne_of_live e1 hn2).symm, upd_ne _ _ (ne_of_live e2 hn2).symm, ?_⟩
    refine cloneO ho (by omega) hn2 (fun v3 g3 n3 s3 hD3 => ⟨?_, ?_⟩)
    · rw [upd_ne _ _ (ne_of_live e2 hn2).symm]; exact (s3.live e2).trans e2.symm
    have hv3 : Sl encO 3 g3 v3 x.ops := hD3 g3 (Dif.refl _ _)
    refine fillTx (Sl.isCell hv3) _ (fillTx1 _ fun hn3 => ?_)
    refine hB.app (x := x) s3 rfl (by simp [Sl.isCell hv3]; rfl) (fun gH hD => ⟨v3, rfl, hD3 gH hD⟩) hn3 (by decide) (by rw [List.length_take]; omega) (fun v' g' n' hB' => ?_)
    rw [kBin_add, wrap64_of (by omega) (by omega), show ((j : Nat) : Int) + 1 = ((j + 1 : Nat) : Int) by omega]
    exact ih (m - 1) _ _ _ (by omega) ⟨j + 1, v', by omega, t0, rfl, rfl, by rw [take_add hget]; exact hB'⟩
  · rw [List.take_of_length_le (by omega)] at hB
    exact aRet_of (Sub.refl _) (hK _ _ _ hB.sub' hB.done)
end Go.Proofs.YtecojalpbppfeaaGreat.Gen

namespace Go.Proofs.YtecojalpbppfeaaGreat.Gen
open Go Go.Proofs.YtecojalpbppfeaaGreat.Abs Go.RowKit
variable {g : G} {n : Nat} {h : Hp}
/-! ## the code of transactions, on both sides -/
theorem codeD_bad (hG : ¬ GoodH h) (l : List TxT) : codeD h l = ([], 1) := by unfold codeD; rw [if_pos hG]
theorem codeD_form (hG : GoodH h) {l : List TxT} {t : TxT} (ht : t ∈ l) (hn : ¬ GoodT t.ops) : codeD h l = ([], 11) := by unfold codeD; rw [if_neg (fun hh => hh hG), if_pos (fun hh => hn (hh t ht))]
theorem codeD_many (hG : GoodH h) {l : List TxT} (hg : ∀ t ∈ l, GoodT t.ops) (h8 : 8 < l.length) : codeD h l = ([], 3) := by unfold codeD; rw [if_neg (fun hh => hh hG), if_neg (fun hh => hh hg), if_pos h8]
theorem codeD_ok (hG : GoodH h) {l : List TxT} (hg : ∀ t ∈ l, GoodT t.ops) (h8 : ¬ 8 < l.length) : codeD h l = (codeB h l).done := by unfold codeD; rw [if_neg (fun hh => hh hG), if_neg (fun hh => hh hg), if_neg h8]
theorem ld2 {l : Nat} {a b : Value} {K : List Value → Prop} (hl : g l = some (.cells [a, b] .exact)) (kk : K [a, b]) : kLdN g l 0 2 K := kLdN_of hl (by simp) kk
theorem DoneK.nil {K : Cont} {g0 : G} {r : List Int × Int} {e : Int} (hK : DoneK g0 r K) (he : r = ([], e)) {g' : G} {n' : Nat} (s : Sub g0 g') : K (.tuple #[.slice none 0 0, .int .i64 e]) g' n' := by
  have := hK (.slice none 0 0) g' n' s (by rw [he]; exact OwnS.nil) (by simp [blks, blkOf])
  rw [he] at this; exact this
theorem txs_cell {c : List Value} {t : TxT} (hc : TxC g c t) : ∃ vo, c = [vo, .bool t.abort] ∧ Sl encO 3 g vo t.ops ∧ Abs.isCell vo = true := by
  obtain ⟨vo, e, ho⟩ := hc
  exact ⟨vo, e, ho, Sl.isCell ho⟩
set_option maxHeartbeats 2000000 in
theorem Code_spec {v : Value} {l : List TxT} (hv : SlR TxC 2 g v l) (hl : l.length ≤ 1000) (hops : ∀ t ∈ l, t.ops.length < 1000000) {K : Cont} (hK : DoneK g (codeD h l) K) : AC client_Code_id [.agg (encH h).toArray, v] g n K := by
  refine ACalls.fold X0_mono ?_
  rw [← client_Code_eq]
  simp only [client_Code, kAgg_a]
  intro hn
  have s1 := (Sub.refl g).new hn (some (.cells (encH h) .exact))
  have hb0 : upd g n (some (.cells (encH h) .exact)) n = some (.cells (encH h) .exact) := upd_same _ _ _
  generalize upd g n (some (.cells (encH h) .exact)) = g1 at s1 hb0
  have hv0 : SlR TxC 2 g1 v l := hv.mono (fun c x hx => TxC.mono s1 c x hx) s1
  have hv1 : SlR (fun _ => TxC g1) 2 g1 v l := hv0
  refine ldH hb0 (GoodH_spec fun g2 n2 s2 => ?_)
  rw [kUn_not]
  by_cases hG : ¬ GoodH h
  · exact kSplit_t (by simp [hG]) (aRet_of (Sub.refl _) (hK.nil (codeD_bad hG l) (s1.trans s2)))
  have hG : GoodH h := Classical.byContradiction hG
  refine kSplit_f (by simp [hG]) ((SlR.mono (R := fun _ => TxC g1) (fun _ _ hx => hx) hv1 s2).len ?_)
  refine lfp_ind (m := l.length) (Inv := fun mm e g' n' => ∃ j : Nat, mm + j = l.length ∧ e 1 = v ∧ e 2 = ptr n 0 ∧ e 14 = v ∧ e 15 = .int .i64 (l.length : Nat) ∧ e 16 = .int .i64 (j : Nat) ∧ Sub g1 g' ∧ ∀ t ∈ l.take j, GoodT t.ops) ?_ ⟨0, by simp, rfl, rfl, rfl, rfl, rfl, s2, by simp⟩
  rintro I mm e gC nC ih ⟨j, hmm, t1, t2, t14, t15, t16, sC, hgt⟩
  simp only [client_Code_l1, t14, t15, t16]
  have hvC : SlR (fun _ => TxC g1) 2 gC v l := SlR.mono (R := fun _ => TxC g1) (fun _ _ hx => hx) hv1 sC
  rw [kBin_lss]
  refine kSplit_d (fun hj => ?_) (fun hj => ?_)
  · have hj : j < l.length := by omega
    have hget := List.getElem?_eq_getElem hj
    have hmem := List.mem_of_getElem? hget
    have hol := hops _ hmem
    generalize l[j] = t at hget hmem hol
    refine hvC.idx hget (fun lx o c ha hc hx => ?_)
    obtain ⟨vo, rfl, ho, hcell⟩ := txs_cell hx
    simp only [kPtr_p]
    refine ha.ldN rfl (fun hn7 => ⟨rfl, copyS hn7 rfl (by
      intro u hu
      simp only [List.mem_cons, List.not_mem_nil, or_false] at hu
      rcases hu with rfl | rfl
      · exact hcell
      · rfl) fun s7 hb7 => ?_⟩)
    generalize upd gC nC (some (.cells [vo, .bool t.abort] .exact)) = g7 at s7 hb7
    refine ld2 hb7 (TGood_spec ((ho.mono sC).mono s7) hol fun g8 n8 s8 => ?_)
    rw [kUn_not]
    by_cases hT : GoodT t.ops
    · refine kSplit_f (by simp [hT]) ?_
      rw [kBin_add, wrapNat (by omega)]
      refine ih (mm - 1) _ _ _ (by omega) ⟨j + 1, by omega, t1, t2, t14, t15, rfl, sC.trans (s7.trans s8), fun y hy => ?_⟩
      rw [List.take_add_one, hget] at hy
      rcases List.mem_append.1 hy with hy | hy
      · exact hgt y hy
      · simp at hy; subst hy; exact hT
    · exact kSplit_t (by simp [hT]) (aRet_of (Sub.refl _) (hK.nil (codeD_form hG hmem hT) (s1.trans (sC.trans (s7.trans s8)))))
  have hje : l.take j = l := List.take_of_length_le (by omega)
  rw [hje] at hgt
  simp only [client_Code_j2]
  show kLen (e 1) _
  rw [t1]
  refine hvC.len ?_
  rw [kBin_gtr]
  refine kSplit_d (fun h8 => aRet_of (Sub.refl _) (hK.nil (codeD_many hG hgt (by omega)) (s1.trans sC))) (fun h8 => ?_)
  rw [codeD_ok hG hgt (by omega)] at hK
  simp only [kFill_nil, kAgg_a]
  intro hnb
  have hB := bd_new hnb
  have sb := (Sub.refl gC).new hnb (some (.cells [(.slice none 0 0), (.slice none 0 0), (.slice none 0 0), (.bool false)] .exact))
  generalize upd gC nC (some (.cells [(.slice none 0 0), (.slice none 0 0), (.slice none 0 0), (.bool false)] .exact)) = gD at hB sb
  show kPtr (e 2) _
  rw [t2]
  simp only [kPtr_p]
  refine ldH (sb.live (sC.live hb0)) ?_
  refine ⟨rfl, by simp, rfl, by simp [encH_len], ?_⟩
  intro hnw
  have sw := (Sub.refl gD).new hnw (some (.cells (wCells nC h 0 0 0) .exact))
  have hw : upd gD (nC + 1) (some (.cells (wCells nC h 0 0 0) .exact)) (nC + 1) = some (.cells (wCells nC h 0 0 0) .exact) := upd_same _ _ _
  have hwC : gC (nC + 1) = none := sb.none hnw
  have sE : Sub gC (upd gD (nC + 1) (some (.cells (wCells nC h 0 0 0) .exact))) := sb.trans sw
  have s0 : Sg BdH nC gC (upd gD (nC + 1) (some (.cells (wCells nC h 0 0 0) .exact))) [nC] B0 0 0 := ⟨hB.mono sw, sE, by intro q hq; rw [List.mem_singleton.1 hq]; exact hnb, B0_ok, by simp [B0], by simp [B0]⟩
  show kLen (e 1) _
  rw [t1]
  refine hvC.len ?_
  show lfp (client_Code_l3 AC K) _ (upd gD (nC + 1) (some (.cells (wCells nC h 0 0 0) .exact))) _
  generalize upd gD (nC + 1) (some (.cells (wCells nC h 0 0 0) .exact)) = gE at hw sE s0
  refine lfp_ind (m := l.length) (Inv := fun mm e g' n' => ∃ (j : Nat) (fp' : List Nat) (fu ba en : Int), mm + j = l.length ∧ e 8 = ptr (nC + 1) 0 ∧ e 32 = v ∧ e 33 = .int .i64 (l.length : Nat) ∧ e 34 = .int .i64 (j : Nat) ∧ Sg BdH nC gC g' fp' ((l.take j).foldl (fun B t => txB h t B) B0) (700 * j) (50 * j) ∧ g' (nC + 1) = some (.cells (wCells nC h fu ba en) .exact) ∧ nC + 1 ∉ fp') ?_
    ⟨0, [nC], 0, 0, 0, by simp, rfl, t1, rfl, rfl, s0, hw, by simp⟩
  rintro I mm e' gF nF ih2 ⟨j, fpF, fu, ba, en, hmm, t8, t32, t33, t34, s, hwF, hwf⟩
  simp only [client_Code_l3, t8, t32, t33, t34]
  have hvF : SlR (fun _ => TxC g1) 2 gF v l := SlR.mono (R := fun _ => TxC g1) (fun _ _ hx => hx) hvC s.hs
  rw [kBin_lss]
  refine kSplit_d (fun hj => ?_) (fun hj => ?_)
  · have hj : j < l.length := by omega
    have hget := List.getElem?_eq_getElem hj
    have hmem := List.mem_of_getElem? hget
    have hgT := hgt _ hmem
    generalize l[j] = t at hget hmem hgT
    have hft : (l.take (j + 1)).foldl (fun B t => txB h t B) B0 = txB h t ((l.take j).foldl (fun B t => txB h t B) B0) := by rw [List.take_add_one, hget, List.foldl_append]; rfl
    refine hvF.idx hget (fun lx o c ha hc hx => ?_)
    obtain ⟨vo, rfl, ho, hcell⟩ := txs_cell hx
    simp only [kPtr_p]
    refine ha.ldN rfl (fun hn7 => ⟨rfl, copyS hn7 rfl (by
      intro u hu
      simp only [List.mem_cons, List.not_mem_nil, or_false] at hu
      rcases hu with rfl | rfl
      · exact hcell
      · rfl) fun s7 hb7 => ?_⟩)
    generalize upd gF nF (some (.cells [vo, .bool t.abort] .exact)) = g7 at s7 hb7
    refine ld2 hb7 (Tx_spec (s.sub s7) hG (s7.live hwF) hwC hwf (ho.mono sC) hgT (by omega) (by omega) fun _ g8 n8 fp8 fu8 ba8 en8 s8 hw8 hf8 => ?_)
    rw [kBin_add, wrapNat (by omega)]
    exact ih2 (mm - 1) _ _ _ (by omega) ⟨j + 1, fp8, fu8, ba8, en8, by omega, t8, t32, t33, rfl, by rw [hft]; exact s8.up (by omega) (by omega), hw8, hf8⟩
  have hje : l.take j = l := List.take_of_length_le (by omega)
  rw [hje] at s
  have hjl : j ≤ 8 := by omega
  simp only [client_Code_j4]
  show kNil (e' 8) _
  rw [t8]
  simp only [kNil_p, kPtr_p]
  refine kLd_of hwF rfl (fillOp 22 ?_)
  have so := s.old
  have hwK := hideF_some hwF hwf
  have s := s.rek
  generalize hideF gF fpF = gK2 at so hwK s
  refine aLit1 s (by simp) (by omega) fun _ _ _ _ _ _ s => ?_
  show kNil (e' 8) _
  rw [t8]
  simp only [kNil_p, kPtr_p]
  refine kLd_of (s.hs.live hwK) rfl (Done_spec s.b s.bk.1 fun v9 g9 n9 s9 ho9 hf9 => ?_)
  refine kExt (vs := [v9, .int .i64 _]) rfl (kExt (vs := [v9, .int .i64 _]) rfl ?_)
  have sAll := s1.trans (sC.trans (so.trans s.hs))
  exact aRet_of (Sub.refl _) (hK v9 g9 n9 (sAll.trans s9) ho9 fun q hq => sAll.none (hf9 q hq))
end Go.Proofs.YtecojalpbppfeaaGreat.Gen
