import Derived.Test.YtecojalpbppfeaaGreatSpecClientCodeB
/- What the functions come to. -/
set_option linter.all false
set_option linter.deprecated false
namespace Go.Proofs.YtecojalpbppfeaaGreat.Gen
open Go Go.Proofs.YtecojalpbppfeaaGreat.Abs Go.RowKit
variable {g : G} {n : Nat} {h : Hp}
set_option maxHeartbeats 2000000 in
theorem rCode_spec {v : Value} {l : List TxT} (hv : SlR TxC 2 g v l) (hl : l.length ≤ 1000) (hops : ∀ t ∈ l, t.ops.length < 1000000) (hpos : ∀ t ∈ l, ∀ o ∈ t.ops, 0 ≤ o.v) {K : Cont} (hK : DoneK g (codeD h l) K) : AC bellowsref25_Code_id [.agg (encH h).toArray, v] g n K := by
  refine ACalls.fold X0_mono ?_
  rw [← bellowsref25_Code_eq]
  simp only [bellowsref25_Code, kAgg_a]
  intro hn
  have s1 := (Sub.refl g).new hn (some (.cells (encH h) .exact))
  have hb0 : upd g n (some (.cells (encH h) .exact)) n = some (.cells (encH h) .exact) := upd_same _ _ _
  generalize upd g n (some (.cells (encH h) .exact)) = g1 at s1 hb0
  have hv0 : SlR TxC 2 g1 v l := hv.mono (fun c x hx => TxC.mono s1 c x hx) s1
  have hv1 : SlR (fun _ => TxC g1) 2 g1 v l := hv0
  refine ldH hb0 (rGoodH_spec fun g2 n2 s2 => ?_)
  rw [kUn_not]
  by_cases hG : ¬ GoodH h
  · exact kSplit_t (by simp [hG]) (aRet_of (Sub.refl _) (hK.nil (codeD_bad hG l) (s1.trans s2)))
  have hG : GoodH h := Classical.byContradiction hG
  refine kSplit_f (by simp [hG]) ?_
  refine lfp_ind (m := l.length) (Inv := fun mm e g' n' => ∃ j : Nat, mm + j = l.length ∧ e 1 = v ∧ e 2 = ptr n 0 ∧ e 6 = .int .i64 (j : Nat) ∧ Sub g1 g' ∧ ∀ t ∈ l.take j, GoodT t.ops) ?_ ⟨0, by simp, rfl, rfl, rfl, s2, by simp⟩
  rintro I mm e gC nC ih ⟨j, hmm, t1, t2, t6, sC, hgt⟩
  simp only [bellowsref25_Code_l1, t1, t6]
  have hvC : SlR (fun _ => TxC g1) 2 gC v l := SlR.mono (R := fun _ => TxC g1) (fun _ _ hx => hx) hv1 sC
  refine hvC.len ?_
  rw [kBin_lss]
  refine kSplit_d (fun hj => ?_) (fun hj => ?_)
  · have hj : j < l.length := by omega
    have hget := List.getElem?_eq_getElem hj
    have hmem := List.mem_of_getElem? hget
    have hol := hops _ hmem
    generalize l[j] = t at hget hmem hol
    refine hvC.idx hget (fun lx o c ha hc hx => ?_)
    obtain ⟨vo, rfl, ho, hcell⟩ := txs_cell hx
    simp only [kPtr_p]
    refine ha.ldN rfl (rTGood_spec (ho.mono sC) hol fun g8 n8 s8 => ?_)
    rw [kUn_not]
    by_cases hT : GoodT t.ops
    · refine kSplit_f (by simp [hT]) ?_
      rw [kBin_add, wrapNat (by omega)]
      refine ih (mm - 1) _ _ _ (by omega) ⟨j + 1, by omega, t1, t2, rfl, sC.trans s8, fun y hy => ?_⟩
      rw [List.take_add_one, hget] at hy
      rcases List.mem_append.1 hy with hy | hy
      · exact hgt y hy
      · simp at hy; subst hy; exact hT
    · exact kSplit_t (by simp [hT]) (aRet_of (Sub.refl _) (hK.nil (codeD_form hG hmem hT) (s1.trans (sC.trans s8))))
  have hje : l.take j = l := List.take_of_length_le (by omega)
  rw [hje] at hgt
  simp only [bellowsref25_Code_j2]
  show kLen (e 1) _
  rw [t1]
  refine hvC.len ?_
  rw [kBin_gtr]
  refine kSplit_d (fun h8 => aRet_of (Sub.refl _) (hK.nil (codeD_many hG hgt (by omega)) (s1.trans sC))) (fun h8 => ?_)
  rw [codeD_ok hG hgt (by omega)] at hK
  simp only [kFill_nil, kAgg_a]
  intro hnb
  have hB := rb_new hnb
  have sb := (Sub.refl gC).new hnb (some (.cells [(.slice none 0 0), (.slice none 0 0), (.bool false)] .exact))
  show lfp (bellowsref25_Code_l3 AC K) _ (upd gC nC (some (.cells [(.slice none 0 0), (.slice none 0 0), (.bool false)] .exact))) _
  have s0 : Sg RbH nC gC (upd gC nC (some (.cells [(.slice none 0 0), (.slice none 0 0), (.bool false)] .exact))) [nC] B0 0 0 := ⟨hB, sb, by intro q hq; rw [List.mem_singleton.1 hq]; exact hnb, B0_ok, by simp [B0], by simp [B0]⟩
  generalize upd gC nC (some (.cells [(.slice none 0 0), (.slice none 0 0), (.bool false)] .exact)) = gE at s0
  refine lfp_ind (m := l.length) (Inv := fun mm e g' n' => ∃ (j : Nat) (fp' : List Nat), mm + j = l.length ∧ e 1 = v ∧ e 2 = ptr n 0 ∧ e 7 = ptr nC 0 ∧ e 8 = .int .i64 (j : Nat) ∧ Sg RbH nC gC g' fp' ((l.take j).foldl (fun B t => txB h t B) B0) (700 * j) (50 * j)) ?_
    ⟨0, [nC], by simp, t1, t2, rfl, rfl, s0⟩
  rintro I mm e' gF nF ih2 ⟨j, fpF, hmm, t1, t2, t7, t8, s⟩
  simp only [bellowsref25_Code_l3, t1, t2, t7, t8, kPtr_p]
  have hvF : SlR (fun _ => TxC g1) 2 gF v l := SlR.mono (R := fun _ => TxC g1) (fun _ _ hx => hx) hvC s.hs
  refine hvF.len ?_
  rw [kBin_lss]
  refine kSplit_d (fun hj => ?_) (fun hj => ?_)
  · have hj : j < l.length := by omega
    have hget := List.getElem?_eq_getElem hj
    have hmem := List.mem_of_getElem? hget
    have hgT := hgt _ hmem
    generalize l[j] = t at hget hmem hgT
    have hft : (l.take (j + 1)).foldl (fun B t => txB h t B) B0 = txB h t ((l.take j).foldl (fun B t => txB h t B) B0) := by rw [List.take_add_one, hget, List.foldl_append]; rfl
    refine ldH (s.hs.live (sC.live hb0)) (hvF.idx hget (fun lx o c ha hc hx => ?_))
    obtain ⟨vo, rfl, ho, hcell⟩ := txs_cell hx
    simp only [kPtr_p]
    refine ha.ldN rfl (rwhole_spec s hG (ho.mono sC) hgT (by omega) (by omega) fun _ g8 n8 fp8 s8 => ?_)
    rw [kBin_add, wrapNat (by omega)]
    exact ih2 (mm - 1) _ _ _ (by omega) ⟨j + 1, fp8, by omega, t1, t2, t7, rfl, by rw [hft]; exact s8.up (by omega) (by omega)⟩
  have hje : l.take j = l := List.take_of_length_le (by omega)
  rw [hje] at s
  have hjl : j ≤ 8 := by omega
  simp only [bellowsref25_Code_j4]
  refine fillOp 22 ?_
  show kFill _ _ fun c46 => kNew c46 .exact _ _ fun l46 g6 n46 => AC bellowsref21_Builder_Add_id [e' 7, _] _ _ _
  rw [t7]
  refine bLit1 s (by simp) (by omega) fun _ _ _ gQ nQ _ s => ?_
  show AC bellowsref21_Builder_Done_id [e' 7] _ _ _
  rw [t7]
  have hcd := code_done (h := h) (l := l) (fun t ht o ho => ⟨(hgt t ht).2 o ho, hpos t ht o ho⟩) (by have := s.bk.2.1; show ((l.foldl (fun B t => txB h t B) B0).add [⟨22, 0, 0, 0, 0⟩]).items.length ≤ _; omega)
  have sAll := s1.trans (sC.trans s.hs)
  refine rDone_spec s.b s.bk.1 fun v9 g9 n9 s9 ho9 hf9 => ?_
  refine kExt (vs := [v9, .int .i64 (codeB h l).done.2]) rfl (kExt (vs := [v9, .int .i64 (codeB h l).done.2]) rfl ?_)
  rw [kBin_neq]
  rcases hcd with h0 | h3
  · refine kSplit_f (by simp [h0]) (aRet_of (Sub.refl _) ?_)
    have := hK v9 g9 n9 (sAll.trans s9) ho9 fun q hq => sAll.none (hf9 q hq)
    rw [h0] at this
    exact this
  · refine kSplit_t (by simp [h3]) (aRet_of (Sub.refl _) (hK.nil h3 (sAll.trans s9)))
end Go.Proofs.YtecojalpbppfeaaGreat.Gen

namespace Go.Proofs.YtecojalpbppfeaaGreat.Gen
open Go Go.Proofs.YtecojalpbppfeaaGreat.Abs Go.RowKit
variable {g : G} {n : Nat} {h : Hp}
theorem done_le (B : Bd) : B.done.1.length ≤ 4096 := by
  unfold Bd.done
  split
  · simp
  · split
    · simp
    · split
      · simp
      · rename_i h
        split
        · simp
        · rename_i h4
          show (words (B.items.map B.fix)).1.length ≤ 4096
          rw [words_len _ (by simpa using h), List.length_map]; omega
theorem codeD_len (h : Hp) (l : List TxT) : (codeD h l).1.length < 1000000 := by
  unfold codeD
  split
  · simp
  · split
    · simp
    · split
      · simp
      · have := done_le (codeB h l); omega
theorem rowLit1D {α : Type} {R : G → List Value → α → Prop} {z l : Nat} {c : List Value} {x : α} (hz : c.length = z) (h : g l = some (.cells c .exact)) (hR : R g c x) : SlR R z g (.slice (some ⟨l, 0, none⟩) 1 1) [x] := by
  refine ⟨[c], by simpa using (Rd.lit h (by omega) : Rd g (.slice (some ⟨l, 0, none⟩) 1 1) z 1 c), rfl, fun i c' x' hc hx => ?_⟩
  cases i with
  | zero => simp at hc hx; subst hc; subst hx; exact ⟨hz, hR⟩
  | succ i => simp at hc
def t43 : TxT := ⟨[⟨1, 3, 0⟩], false⟩
def t9 : TxT := ⟨[⟨9, 0, 0⟩], false⟩
theorem c43 : (codeD plainH [t43]).2 = 0 ∧ (codeD plainH [t43]).1.length = 43 := by
  have hg : ∀ t ∈ [t43], GoodT t.ops := by decide
  rw [codeD_ok goodPlain hg (by decide)]
  have h : (codeB plainH [t43]).done.2 = 0 := by kernel_rfl
  have h2 : (codeB plainH [t43]).done.1.length = 43 := by kernel_rfl
  exact ⟨h, h2⟩
theorem c11 : codeD plainH [t9] = ([], 11) := codeD_form goodPlain (t := t9) (by simp) (by decide)
theorem good43 : GoodT t43.ops := by decide
abbrev slV (l : Nat) : Value := .slice (some ⟨l, 0, none⟩) 1 1
theorem wk25 {l1 l7 l12 : Nat} {K : Cont} (h7 : g l7 = some (.cells (encO ⟨1, 3, 0⟩) .exact)) (h1 : g l1 = some (.cells [slV l7, .bool false] .exact)) (h12 : g l12 = some (.cells [slV l7, .bool false] .exact)) (hK : ∀ g' n', K (.bool true) g' n') :
    AC client_Code_id [.agg (encH plainH).toArray, slV l12] g n fun v13 g6 n13 =>
    kExtract v13 0 fun v14 =>
    kExtract v13 1 fun v15 =>
    AC bellowslaw22_Plain_id [] g6 n13 fun v17 g7 n17 =>
    kFill [(.int .i64 0), (.int .i64 0), (.int .u64 0)] [(0, none, (.int .i64 9))] fun c18 =>
    kFill (reps 1 [(.int .i64 0), (.int .i64 0), (.int .u64 0)]) [(0, (some 3), (.agg c18.toArray))] fun c19 =>
    kNew c19 .exact g7 n17 fun l19 g8 n19 =>
    kFill [(.slice none 0 0), (.bool false)] [(0, none, (.slice (some ⟨l19, 0, none⟩) 1 1))] fun c20 =>
    kFill (reps 1 [(.slice none 0 0), (.bool false)]) [(0, (some 2), (.agg c20.toArray))] fun c21 =>
    kNew c21 .exact g8 n19 fun l21 g9 n21 =>
    AC client_Code_id [v17, (.slice (some ⟨l21, 0, none⟩) 1 1)] g9 n21 fun v22 g10 n22 =>
    kExtract v22 0 fun v23 =>
    kExtract v22 1 fun v24 =>
    kBin .int .eql v15 (.int .i64 0) fun v26 =>
    kSplit v26 (
    kLen v14 fun v29 =>
    kBin .int .eql v29 (.int .i64 43) fun v30 =>
    kSplit v30 (
    kBin .int .eql v24 (.int .i64 11) fun v34 =>
    kSplit v34 (
    kLdN g10 l1 0 2 fun c37 =>
    AC client_Good_id [(.agg c37.toArray)] g10 n22 fun v38 g11 n38 =>
    aRet K v38 g11 n38) (
    aRet K (.bool false) g10 n22)) (
    aRet K (.bool false) g10 n22)) (
    aRet K (.bool false) g10 n22) := by
  have ho : Sl encO 3 g (slV l7) t43.ops := Sl.one rfl h7
  have hr : SlR TxC 2 g (slV l12) [t43] := rowLit1D rfl h12 ⟨_, rfl, ho⟩
  refine Code_spec hr (by simp) (by simp [t43]) fun v14 g6 n13 s6 ho14 _ => ?_
  obtain ⟨e0, e43⟩ := c43
  rw [e0]
  refine kExt (vs := [v14, .int .i64 0]) rfl (kExt (vs := [v14, .int .i64 0]) rfl (Plain_spec fun g7 n17 s7 => ?_))
  refine ⟨rfl, by simp, rfl, by simp [reps], fun hn19 => ?_⟩
  have s8 := (Sub.refl g7).new hn19 (some (.cells (encO ⟨9, 0, 0⟩) .exact))
  have hb19 : upd g7 n17 (some (.cells (encO ⟨9, 0, 0⟩) .exact)) n17 = some (.cells (encO ⟨9, 0, 0⟩) .exact) := upd_same _ _ _
  refine ⟨rfl, by simp, rfl, by simp [reps], ?_⟩
  rw [kFill_nil]
  show kNew [slV n17, .bool false] .exact (upd g7 n17 (some (.cells (encO ⟨9, 0, 0⟩) .exact))) _ _
  generalize upd g7 n17 (some (.cells (encO ⟨9, 0, 0⟩) .exact)) = g8 at s8 hb19
  intro hn21
  have s9 := (Sub.refl g8).new hn21 (some (.cells [slV n17, .bool false] .exact))
  have hb21 : upd g8 (n17 + 1) (some (.cells [slV n17, .bool false] .exact)) (n17 + 1) = some (.cells [slV n17, .bool false] .exact) := upd_same _ _ _
  generalize upd g8 (n17 + 1) (some (.cells [slV n17, .bool false] .exact)) = g9 at s9 hb21
  have ho9 : Sl encO 3 g9 (slV n17) t9.ops := (Sl.one rfl hb19 : Sl encO 3 g8 (slV n17) [⟨9, 0, 0⟩]).mono s9
  have hr9 : SlR TxC 2 g9 (slV (n17 + 1)) [t9] := rowLit1D rfl hb21 ⟨_, rfl, ho9⟩
  refine Code_spec hr9 (by simp) (by simp [t9]) fun v23 g10 n22 s10 ho23 _ => ?_
  rw [c11]
  refine kExt (vs := [v23, .int .i64 11]) rfl (kExt (vs := [v23, .int .i64 11]) rfl ?_)
  rw [kBin_eql]
  refine kSplit_t (by simp) (ho14.sl.len ?_)
  rw [e43, kBin_eql]
  refine kSplit_t (by simp) ?_
  rw [kBin_eql]
  have sA := s6.trans (s7.trans (s8.trans (s9.trans s10)))
  refine kSplit_t (by simp) (ld2 (sA.live h1) (TGood_spec (ho.mono sA) (by simp [t43]) fun g11 n38 _ => aRet_of (Sub.refl _) ?_))
  have : decide (GoodT t43.ops) = true := by rw [decide_eq_true_eq]; exact good43
  rw [this]; exact hK _ _
theorem wakes25_spec {K : Cont} (hK : ∀ g' n', K (.bool true) g' n') : AC bellowslaw25_wakes_id [] g n K := by
  refine ACalls.fold X0_mono ?_
  rw [← bellowslaw25_wakes_eq]
  simp only [bellowslaw25_wakes, kAgg_a, kPtr_p]
  refine ⟨rfl, by simp, rfl, by simp, rfl, by simp [reps], ?_⟩
  intro hn7
  have s1 := (Sub.refl g).new hn7 (some (.cells (encO ⟨1, 3, 0⟩) .exact))
  have hb7 : upd g n (some (.cells (encO ⟨1, 3, 0⟩) .exact)) n = some (.cells (encO ⟨1, 3, 0⟩) .exact) := upd_same _ _ _
  refine ⟨rfl, by simp, ?_⟩
  rw [kFill_nil]
  show kNew [(.slice none 0 0), (.bool false)] .exact (upd g n (some (.cells (encO ⟨1, 3, 0⟩) .exact))) _ _
  generalize upd g n (some (.cells (encO ⟨1, 3, 0⟩) .exact)) = g1 at s1 hb7
  intro hn1
  refine ⟨rfl, copyS (c := [slV n, .bool false]) hn1 rfl (by simp [isCell]) fun s2 hb1 => ?_⟩
  generalize upd g1 (n + 1) (some (.cells [slV n, .bool false] .exact)) = g3 at s2 hb1
  have hb7 := s2.live hb7
  refine ld2 hb1 ⟨?_, ?_⟩
  · refine Plain_spec fun g4 n10 s4 => ⟨(s4.live hb1).trans hb1.symm, ?_⟩
    refine ⟨rfl, by simp [reps], fun hn12 => ?_⟩
    have s5 := (Sub.refl g4).new hn12 (some (.cells [slV n, .bool false] .exact))
    exact wk25 (l12 := n10) (s5.live (s4.live hb7)) (s5.live (s4.live hb1)) (upd_same _ _ _) hK
  · refine ⟨rfl, by simp [reps], fun hn12 => ?_⟩
    have s5 := (Sub.refl g3).new hn12 (some (.cells [slV n, .bool false] .exact))
    have hb12 : upd g3 (n + 1 + 1) (some (.cells [slV n, .bool false] .exact)) (n + 1 + 1) = some (.cells [slV n, .bool false] .exact) := upd_same _ _ _
    have hb1' := s5.live hb1
    have hb7' := s5.live hb7
    refine Plain_spec fun g4 n10 s4 => ⟨(s4.live hb1').trans hb1'.symm, ?_⟩
    exact wk25 (s4.live hb7') (s4.live hb1') (s4.live hb12) hK
end Go.Proofs.YtecojalpbppfeaaGreat.Gen

namespace Go.Proofs.YtecojalpbppfeaaGreat.Gen
open Go Go.Proofs.YtecojalpbppfeaaGreat.Abs Go.RowKit
variable {g : G} {n : Nat} {h : Hp}
set_option maxHeartbeats 1000000 in
theorem ClientCode_spec {v : Value} {l : List TxT} (hv : SlR TxC 2 g v l) (hl : l.length < 4611686018427387904) (hpos : ∀ t ∈ l, ∀ o ∈ t.ops, 0 ≤ o.v) {K : Cont} (hK : ∀ g' n', K (.bool true) g' n') : AC bellowslaw25_ClientCode_id [.agg (encH h).toArray, v] g n K := by
  refine ACalls.fold X0_mono ?_
  rw [← bellowslaw25_ClientCode_eq]
  simp only [bellowslaw25_ClientCode, kAgg_a, kPtr_p]
  intro hn
  have s1 := (Sub.refl g).new hn (some (.cells (encH h) .exact))
  have hb0 : upd g n (some (.cells (encH h) .exact)) n = some (.cells (encH h) .exact) := upd_same _ _ _
  generalize upd g n (some (.cells (encH h) .exact)) = g1 at s1 hb0
  have hv1 : SlR TxC 2 g1 v l := hv.mono (fun c x hx => TxC.mono s1 c x hx) s1
  refine Fair25_spec hv1 hl fun n2 => ?_
  rw [kUn_not]
  by_cases hF : ¬ Fair25 l
  · exact kSplit_t (by simp [hF]) (wakes25_spec fun g' n' => aRet_of (Sub.refl _) (hK _ _))
  have hF : Fair25 l := Classical.byContradiction hF
  refine kSplit_f (by simp [hF]) (ldH hb0 (Copied25_spec hv1 hF fun v17 g4 n17 s4 hcp => ⟨(s4.live hb0).trans hb0.symm, ?_⟩))
  have hlen : l.length ≤ 1000 := by have := hF.1; omega
  have hops : ∀ t ∈ l, t.ops.length < 1000000 := fun t ht => by have := hF.2 t ht; omega
  refine Code_spec (hcp g4 (Dif.refl _ _)) hlen hops fun v19 g5 n18 s5 ho19 _ => ?_
  refine kExt (vs := [v19, .int .i64 (codeD h l).2]) rfl (kExt (vs := [v19, .int .i64 (codeD h l).2]) rfl ?_)
  have s15 := s4.trans s5
  have hv5 : SlR TxC 2 g5 v l := hv1.mono (fun c x hx => TxC.mono s15 c x hx) s15
  refine ldH (s15.live hb0) (rCode_spec hv5 hlen hops hpos fun v25 g6 n24 s6 ho25 _ => ?_)
  refine kExt (vs := [v25, .int .i64 (codeD h l).2]) rfl (kExt (vs := [v25, .int .i64 (codeD h l).2]) rfl ?_)
  have hv6 : SlR TxC 2 g6 v l := hv5.mono (fun c x hx => TxC.mono s6 c x hx) s6
  have hv6c : SlR (fun _ => TxC g6) 2 g6 v l := hv6
  have ho19 := ho19.mono s6
  refine lfp_ind (m := l.length) (Inv := fun mm e g' n' => ∃ j : Nat, mm + j = l.length ∧ e 1 = v ∧ e 5 = v19 ∧ e 6 = .int .i64 (codeD h l).2 ∧ e 7 = v25 ∧ e 8 = .int .i64 (codeD h l).2 ∧ e 9 = .int .i64 (j : Nat) ∧ Sub g6 g') ?_ ⟨0, by simp, rfl, rfl, rfl, rfl, rfl, rfl, Sub.refl _⟩
  rintro I mm e gC nC ih ⟨j, hmm, t1, t5, t6, t7, t8, t9, sC⟩
  simp only [bellowslaw25_ClientCode_l1, t1, t9]
  have hvC : SlR (fun _ => TxC g6) 2 gC v l := SlR.mono (R := fun _ => TxC g6) (fun _ _ hx => hx) hv6c sC
  refine hvC.len ?_
  rw [kBin_lss]
  refine kSplit_d (fun hj => ?_) (fun hj => ?_)
  · have hj : j < l.length := by omega
    have hget := List.getElem?_eq_getElem hj
    have hol := hops _ (List.mem_of_getElem? hget)
    generalize l[j] = t at hget hol
    refine hvC.idx hget (fun lx o c ha hc hx => ?_)
    obtain ⟨vo, rfl, ho, hcell⟩ := txs_cell hx
    simp only [kPtr_p]
    refine ha.ldN rfl (hvC.idx hget (fun lx2 o2 c2 ha2 hc2 hx2 => ?_))
    obtain ⟨vo2, rfl, ho2, hcell2⟩ := txs_cell hx2
    simp only [kPtr_p]
    refine ha2.ldN rfl (TGood_spec (ho.mono sC) hol fun g7 n7 s7 => ⟨?_, ?_⟩)
    · obtain ⟨bs, bk, hg2, _⟩ := id ha2
      exact (s7.live hg2).trans hg2.symm
    refine rTGood_spec ((ho2.mono sC).mono s7) hol fun g8 n8 s8 => ?_
    rw [show ∀ (a b : Bool) (J : Value → Prop), kBin .bool .neq (.bool a) (.bool b) J = J (.bool (a != b)) from fun _ _ _ => rfl]
    refine kSplit_f (by simp) ?_
    rw [kBin_add, wrapNat (by omega)]
    exact ih (mm - 1) _ _ _ (by omega) ⟨j + 1, by omega, t1, t5, t6, t7, t8, rfl, sC.trans (s7.trans s8)⟩
  · simp only [bellowslaw25_ClientCode_j2]
    show AC bellowskeep_Words_id [e 5, e 7] _ _ _
    rw [t5, t7]
    refine Words_spec (ho19.sl.mono sC) (ho25.sl.mono sC) (codeD_len h l) fun _ => kSplit_t (by simp) ?_
    show kBin .int .eql (e 6) (e 8) _
    rw [t6, t8, kBin_eql]
    exact kSplit_t (by simp) (wakes25_spec fun g' n' => aRet_of (Sub.refl _) (hK _ _))
/-! ## the row's hypothesis -/
def encP (o : { o : OpT // 0 ≤ o.v }) : List Value := encO o.1
theorem decP (c : List Value) (h : RepL g [.i .i64, .i .i64, .i .u64] c) : ∃ x, c = encP x := by
  obtain ⟨a1, r1, e1, _, h⟩ := rep_i h
  obtain ⟨a2, r2, e2, _, h⟩ := rep_i h
  obtain ⟨a3, r3, e3, hw, h⟩ := rep_i h
  have e := rep_nil h
  subst e e3 e2 e1
  have h0 : 0 ≤ a3 := by
    simp only [Lit.wf, Bool.and_eq_true, decide_eq_true_eq] at hw
    have e : IntKind.u64.min = 0 := by decide
    omega
  exact ⟨⟨⟨a1, a2, a3⟩, h0⟩, rfl⟩
def TxP (g : G) (c : List Value) (t : TxT) : Prop := TxC g c t ∧ ∀ o ∈ t.ops, 0 ≤ o.v
theorem decTxP (c : List Value) (h : RepL g [.s [.i .i64, .i .i64, .i .u64], .b] c) : ∃ t, TxP g c t := by
  obtain ⟨v, r, e1, h1, h⟩ := rep_s h
  obtain ⟨b, r2, e2, h⟩ := rep_b h
  have e := rep_nil h
  subst e e2 e1
  obtain ⟨xs, h2, _⟩ := rep_sl decP h1
  refine ⟨⟨xs.map (·.1), b⟩, ⟨v, rfl, ?_⟩, ?_⟩
  · have : Sl encO 3 g v (xs.map (·.1)) := by
      unfold Sl at h2 ⊢
      rw [List.length_map, List.map_map]
      exact h2
    exact this
  · intro o ho
    obtain ⟨x, _, rfl⟩ := List.mem_map.1 ho
    exact x.2
theorem slR_boundD {α : Type} {R : G → List Value → α → Prop} {z : Nat} {v : Value} {xs : List α} (h : SlR R z g v xs) (hc : ∀ a m c, v = .slice a m c → c < LC ∧ m ≤ c) : xs.length < 4611686018427387904 := by
  obtain ⟨els, ⟨a, c, e, _⟩, _⟩ := h
  obtain ⟨h1, h2⟩ := hc _ _ _ e
  unfold LC at h1; omega
theorem ClientCode_row {args : List Value} (hr : RepAs g [(true, [.i .i64, .i .i64, .i .i64, .i .i64, .i .i64, .i .i64, .i .i64, .i .i64, .i .i64]), (false, [.s [.s [.i .i64, .i .i64, .i .u64], .b]])] args) {K : Cont} (hK : ∀ g' n', K (.bool true) g' n') : AC 4 args g n K := by
  cases hr with
  | cons h1 hr =>
    cases hr with
    | cons h2 hr =>
      cases hr
      obtain ⟨cs, e, h1⟩ := h1
      obtain ⟨a1, r1, e1, _, h⟩ := rep_i h1
      obtain ⟨a2, r2, e2, _, h⟩ := rep_i h
      obtain ⟨a3, r3, e3, _, h⟩ := rep_i h
      obtain ⟨a4, r4, e4, _, h⟩ := rep_i h
      obtain ⟨a5, r5, e5, _, h⟩ := rep_i h
      obtain ⟨a6, r6, e6, _, h⟩ := rep_i h
      obtain ⟨a7, r7, e7, _, h⟩ := rep_i h
      obtain ⟨a8, r8, e8, _, h⟩ := rep_i h
      obtain ⟨a9, r9, e9, _, h⟩ := rep_i h
      have e0 := rep_nil h
      subst e0 e9 e8 e7 e6 e5 e4 e3 e2 e1
      subst e
      obtain ⟨v, r, e, h2, hn⟩ := rep_s h2
      cases e
      obtain ⟨xs, h2, hc⟩ := rep_slR (R := TxP) decTxP h2
      have hb := slR_boundD h2 hc
      obtain ⟨els, q1, q2, q3⟩ := id h2
      refine ClientCode_spec (h := ⟨a1, a2, a3, a4, a5, a6, a7, a8, a9⟩) ⟨els, q1, q2, fun i c x hi hx => ⟨(q3 i c x hi hx).1, (q3 i c x hi hx).2.1⟩⟩ hb (fun t ht => ?_) hK
      obtain ⟨i, hi, rfl⟩ := List.mem_iff_getElem.1 ht
      exact (q3 i _ _ (List.getElem?_eq_getElem (by omega)) (List.getElem?_eq_getElem hi)).2.2
end Go.Proofs.YtecojalpbppfeaaGreat.Gen
