import Derived.Test.YtldlimkjhppjbaaSpecSerialBeginsA
/- What the functions come to. -/
set_option linter.all false
set_option linter.deprecated false
namespace Go.Proofs.Ytldlimkjhppjbaa.Gen
open Go Go.Proofs.Ytldlimkjhppjbaa.Abs Go.RowKit
variable {g : G} {n : Nat}
theorem loop_spec {h : Hp} {xs : List Ev} {txs : List (List TxT)} {v54 vt vx : Value} {l4 lm : Nat} {ms : List (Int × Value)} {bs0 : List (Int × Int)} {g8 : G} {m : List Int} {K : Cont} {res : Int × Int}
    (hb4 : g8 l4 = some (.cells (encH h) .exact)) (hT : SlR TsC 1 g8 vt txs) (hB : Sl encJ 2 g8 v54 bs0) (hM : g8 lm = some (.map (MpE id .i64 ms))) (hTM : ToldM h xs g8 bs0 ms)
    (hAG : AllGood txs) (hbt : ∀ b ∈ bs0, 0 ≤ b.2 ∧ b.2 < ((toldH h b.1 xs).length : Int)) (hlen : xs.length < 1000000) (hbl : bs0.length < 1000000) (htl : txs.length < 1000000)
    (hml0 : 0 < m.length) (hml : m.length ≤ 1000) (hK : ∀ g' n', Sub g8 g' → K (.tuple #[.int .i64 res.1, .int .i64 res.2]) g' n') (mm : Nat) (t : Env) (g9 : G) (n9 : Nat)
    (h9 : ∃ (i : Nat) (vm : Value) (cm : List Int), mm + i = bs0.length ∧ t 58 = v54 ∧ t 59 = .int .i64 (bs0.length : Nat) ∧ t 60 = .int .i64 (i : Nat) ∧ t 12 = v54 ∧ t 13 = .map (some lm) ∧ t 1 = vm ∧ t 2 = vt ∧ t 4 = ptr l4 0 ∧ Sub g8 g9 ∧ Sl encW 1 g9 vm cm ∧ cm.length = m.length ∧ chk h xs txs (bs0.drop i) i cm = res) :
    lfp (serial_Check_l4 AC K) t g9 n9 := by
  refine lfp_ind (m := mm) (Inv := fun mm t g9 n9 => ∃ (i : Nat) (vm : Value) (cm : List Int), mm + i = bs0.length ∧ t 58 = v54 ∧ t 59 = .int .i64 (bs0.length : Nat) ∧ t 60 = .int .i64 (i : Nat) ∧ t 12 = v54 ∧ t 13 = .map (some lm) ∧ t 1 = vm ∧ t 2 = vt ∧ t 4 = ptr l4 0 ∧ Sub g8 g9 ∧ Sl encW 1 g9 vm cm ∧ cm.length = m.length ∧ chk h xs txs (bs0.drop i) i cm = res) ?_ h9
  clear h9
  rintro I mm t g9 n9 ih ⟨i, vm, cm, hm, t58, t59, t60, t12, t13, t1, t2, t4, s9, hvm, hcl, hres⟩
  simp only [serial_Check_l4, t58, t59, t60, kBin_lss]
  refine kSplit_d (fun hj => ?_) (fun hj => ?_)
  · have hj : i < bs0.length := by omega
    have hget : bs0[i]? = some bs0[i] := List.getElem?_eq_getElem hj
    generalize bs0[i] = b at hget
    have hmem := List.mem_of_getElem? hget
    obtain ⟨hb0, hb1⟩ := hbt b hmem
    obtain ⟨vs, css, hms, hSS⟩ := hTM b hmem
    rw [drop_get hget] at hres
    refine (hB.mono s9).idx encJ_len hget (fun l o ha => ?_)
    simp only [kPtr_p]
    refine ha.ldN rfl (fun hn9 => copyJ hn9 rfl fun s10 hb10 => ?_)
    have s8 := s9.trans s10
    have hvm10 := hvm.mono s10
    generalize upd g9 n9 (some (.cells (encJ b) .exact)) = g10 at s10 hb10 s8 hvm10
    refine kIA0 ?_
    rw [kPtr_p]
    refine kLd_of hb10 rfl (kIA1 ?_)
    rw [kPtr_p]
    refine kLd_of hb10 rfl ?_
    have bad : ∀ (g' : G) (n' : Nat), chk h xs txs (b :: bs0.drop (i + 1)) i cm = ((i : Int), (16 : Int)) → Sub g8 g' → aRet K (.tuple #[.int .i64 (i : Nat), .int .i64 16]) g' n' := fun g' n' hc hs => by
      rw [hc] at hres; rw [← hres] at hK
      exact aRet_of (Sub.refl _) (hK g' n' hs)
    -- the place of a transaction
    have j5 : ∀ (t' : Env) (x : Bool), OrS t' 71 75 x → (x = true ↔ b.1 < 0 ∨ (txs.length : Int) ≤ b.1) → t' 14 = .int .i64 (i : Nat) → t' 16 = .int .i64 b.1 → t' 17 = .int .i64 b.2 → t' 58 = v54 → t' 59 = .int .i64 (bs0.length : Nat) → t' 60 = .int .i64 (i : Nat) → t' 12 = v54 → t' 13 = .map (some lm) → t' 1 = vm → t' 2 = vt → t' 4 = ptr l4 0 → serial_Check_j5 AC K I t' g10 (n9 + 1) := by
      intro t' x hO hx q14 q16 q17 q58 q59 q60 q12 q13 q1 q2 q4
      simp only [serial_Check_j5, q14, q16, q17, q13, q1, q2, q4, kPtr_p]
      refine hO.go (fun hxt _ => bad _ _ ?_ s8) (fun hxf _ => ?_)
      · unfold chk; rw [if_pos]; rcases hx.1 hxt with h | h
        · exact .inl h
        · exact .inr (.inl h)
      have hx' : ¬ (b.1 < 0 ∨ (txs.length : Int) ≤ b.1) := fun h => by rw [hx.2 h] at hxf; cases hxf
      obtain ⟨c, hc⟩ : ∃ c : Nat, b.1 = (c : Int) := ⟨b.1.toNat, by omega⟩
      obtain ⟨k, hk⟩ : ∃ k : Nat, b.2 = (k : Int) := ⟨b.2.toNat, by omega⟩
      have hct : b.1.toNat = c := by omega
      have hkt : b.2.toNat = k := by omega
      have hcl' : c < txs.length := by omega
      have hgc : txs[c]? = some txs[c] := List.getElem?_eq_getElem hcl'
      have hgd : txs.getD c [] = txs[c] := getD_of hgc
      generalize txs[c] = ts at hgc hgd
      have hT10 := hT.mono (fun c x h => TsC.mono s8 c x h) s8
      rw [hc, hk]
      refine hT10.idx hgc (fun l o cc ha hcz hx => ?_)
      obtain ⟨vr, rfl, hr⟩ := hx
      rw [kPtr_p]
      refine ha.ld (i := 0) rfl (hr.len ?_)
      rw [kBin_geq]
      refine kSplit_d (fun hkl => bad _ _ ?_ s8) (fun hkl => ?_)
      · unfold chk; rw [if_pos]; rw [hct, hgd]; exact .inr (.inr (by omega))
      have hkl' : k < ts.length := by omega
      have hgk : ts[k]? = some ts[k] := List.getElem?_eq_getElem hkl'
      have hgd2 : txAt txs b.1.toNat b.2.toNat = ts[k] := by unfold txAt; rw [hct, hkt, hgd]; exact getD_of hgk
      generalize ts[k] = tx at hgk hgd2
      have hgood : GoodT tx.ops := hAG ts (List.mem_of_getElem? hgc) tx (List.mem_of_getElem? hgk)
      refine ldH (s8.live hb4) (hT10.idx hgc (fun l2 o2 cc2 ha2 hcz2 hx2 => ?_))
      obtain ⟨vr2, rfl, hr2⟩ := hx2
      rw [kPtr_p]
      refine ha2.ld (i := 0) rfl (hr2.idx hgk (fun l3 o3 cc3 ha3 hcz3 hx3 => ?_))
      obtain ⟨vo, rfl, ho⟩ := hx3
      rw [kPtr_p]
      refine ha3.ldN rfl (Room_spec fun g11 n11 s11 => ?_)
      obtain ⟨bs2, bk2, e2, _⟩ := id ha2
      obtain ⟨bs3, bk3, e3, _⟩ := id ha3
      refine ⟨by rw [kPtr_p, s11.live e2, e2], by rw [kPtr_p, s11.live e3, e3], ?_⟩
      have hrm := roomH_le h
      have s811 := s8.trans s11
      refine Run_spec (hvm10.mono s11) (ho.mono s11) hgood hrm.1 (by omega) (by omega) (by omega) (fun va vb g12 n12 s12 oa ob => ?_)
      have s812 := s811.trans s12
      have hbad := bad g12
      have hstep : chk h xs txs (b :: bs0.drop (i + 1)) i cm = if ((toldH h b.1 xs).getD k []).length ≤ (runTx (roomH h) tx cm).2.length ∧ (runTx (roomH h) tx cm).2.take ((toldH h b.1 xs).getD k []).length = (toldH h b.1 xs).getD k [] ∧ (b.2 = ((toldH h b.1 xs).length : Int) - 1 ∨ ((toldH h b.1 xs).getD k []).length = (runTx (roomH h) tx cm).2.length) then chk h xs txs (bs0.drop (i + 1)) (i + 1) (runTx (roomH h) tx cm).1 else ((i : Int), (16 : Int)) := by
        rw [chk, if_neg, hgd2, hkt]
        rw [hct, hgd]; omega
      have hRl := runTx_len (roomH h) tx cm
      have hRt := runTx_tl (roomH h) tx cm
      have ho16 := hgood.1
      obtain ⟨hTl, hGl⟩ := toldH_lens (h := h) (c := b.1) (xs := xs) (k := k)
      have hSS12 := hSS.mono s812
      rw [hc] at hms
      have hkT : k < (toldH h b.1 xs).length := by omega
      generalize runTx (roomH h) tx cm = rr at oa ob hstep hRl hRt
      obtain ⟨ra, rb⟩ := rr
      generalize toldH h b.1 xs = T at hSS12 hstep hTl hGl hkT
      generalize hgot : T.getD k [] = got at hstep hGl
      simp only at oa ob hstep hRl hRt
      refine kEx (vs := [va, vb, .int .i64 0]) rfl (kEx (vs := [va, vb, .int .i64 0]) rfl (kEx (vs := [va, vb, .int .i64 0]) rfl ?_))
      rw [kBin_neq]
      refine kSplit_f (by simp) (kLookup_m (ev := id) (s812.live hM) ?_)
      rw [hms]
      refine SSget hSS12 hkT (fun l o cg _ _ og hld => ?_)
      rw [hgot] at og
      rw [kPtr_p]
      refine hld _ (kLookup_m (ev := id) (s812.live hM) ?_)
      rw [hms]
      refine hSS12.ho.sl.len ?_
      rw [hSS12.len, kBin_sub, wrap64_of (by omega) (by omega), kBin_eql]
      refine og.sl.len (ob.sl.len ?_)
      rw [kBin_gtr]
      -- what is told
      have j6 : ∀ (t' : Env) (x : Bool), OrS t' 124 133 x → (x = true ↔ rb.length < got.length ∨ (¬ (k : Int) = (T.length : Int) - 1 ∧ got.length < rb.length)) → t' 14 = .int .i64 (i : Nat) → t' 21 = cg → t' 19 = vb → t' 18 = va → t' 58 = v54 → t' 59 = .int .i64 (bs0.length : Nat) → t' 60 = .int .i64 (i : Nat) → t' 12 = v54 → t' 13 = .map (some lm) → t' 2 = vt → t' 4 = ptr l4 0 → serial_Check_j6 AC K I t' g12 n12 := by
        intro t' x hO hx q14 q21 q19 q18 q58 q59 q60 q12 q13 q2 q4
        simp only [serial_Check_j6, q14, q21, q19, q60]
        refine hO.go (fun hxt _ => bad _ _ ?_ s812) (fun hxf _ => ?_)
        · rw [hstep, if_neg]; rintro ⟨h1, h2, h3⟩
          rcases hx.1 hxt with h | ⟨h4, h5⟩
          · omega
          · rcases h3 with h3 | h3
            · omega
            · omega
        have hx' : ¬ (rb.length < got.length ∨ (¬ (k : Int) = (T.length : Int) - 1 ∧ got.length < rb.length)) := fun h => by rw [hx.2 h] at hxf; cases hxf
        refine og.sl.len (ob.sl.to encW_len ob.cap (by omega) (fun v140 h140 _ => ?_))
        refine EqualW_spec og.sl h140 (by omega) (fun n' => ?_)
        rw [kUn_not]
        by_cases he : got = rb.take got.length
        · refine kSplit_f (by rw [decide_eq_true he]; rfl) ?_
          rw [kBin_add, wrap64_of (by omega) (by omega), show ((i : Nat) : Int) + 1 = ((i + 1 : Nat) : Int) by omega]
          rw [hstep, if_pos] at hres
          · exact ih (mm - 1) _ _ _ (by omega) ⟨i + 1, va, ra, by omega, q58, q59, rfl, q12, q13, q18, q2, q4, s812, oa.sl, by omega, hres⟩
          · refine ⟨by omega, he.symm, ?_⟩
            by_cases hl : (k : Int) = (T.length : Int) - 1
            · left; omega
            · right; omega
        · refine kSplit_t (by rw [decide_eq_false he]; rfl) (bad _ _ ?_ s812)
          rw [hstep, if_neg]; rintro ⟨_, h2, _⟩; exact he h2.symm
      refine kSplit_d (fun hgt => ?_) (fun hgt => ?_)
      · exact j6 _ true (.inl ⟨rfl, rfl⟩) ⟨fun _ => .inl (by omega), fun _ => rfl⟩ q14 rfl rfl rfl q58 q59 q60 q12 q13 q2 q4
      · rw [kUn_not]
        by_cases hl : (k : Int) = (T.length : Int) - 1
        · refine kSplit_f (by rw [decide_eq_true hl]; rfl) ?_
          exact j6 _ false (.inr ⟨rfl, rfl⟩) ⟨(fun h => by cases h), (fun h => by rcases h with h | ⟨h, _⟩; omega; exact absurd hl h)⟩ q14 rfl rfl rfl q58 q59 q60 q12 q13 q2 q4
        · refine kSplit_t (by rw [decide_eq_false hl]; rfl) (og.sl.len (ob.sl.len ?_))
          rw [kBin_lss]
          exact j6 _ (decide ((got.length : Int) < rb.length)) (.inr ⟨rfl, rfl⟩) (by simp only [decide_eq_true_eq]; omega) q14 rfl rfl rfl q58 q59 q60 q12 q13 q2 q4
    rw [kBin_lss]
    refine kSplit_d (fun h0 => ?_) (fun h0 => ?_)
    · exact j5 _ true (.inl ⟨rfl, rfl⟩) ⟨fun _ => .inl h0, fun _ => rfl⟩ rfl rfl rfl t58 t59 t60 t12 t13 t1 t2 t4
    · rw [t2]
      refine (hT.mono (fun c x h => TsC.mono s8 c x h) s8).len ?_
      rw [kBin_geq]
      exact j5 _ (decide ((txs.length : Int) ≤ b.1)) (.inr ⟨rfl, rfl⟩) (by simp only [decide_eq_true_eq]; omega) rfl rfl rfl t58 t59 t60 t12 t13 t1 t2 t4
  · have hje : bs0.drop i = [] := List.drop_eq_nil_of_le (by omega)
    rw [hje] at hres
    have e1 : chk h xs txs [] i cm = ((i : Int), (0 : Int)) := rfl
    rw [e1] at hres
    simp only [serial_Check_j7]
    show kLen (t 12) _
    rw [t12]
    refine (hB.mono s9).len (aRet_of (Sub.refl _) ?_)
    have := hK g9 n9 s9
    rw [← hres] at this
    have ei : i = bs0.length := by omega
    rw [ei] at this
    exact this
end Go.Proofs.Ytldlimkjhppjbaa.Gen

namespace Go.Proofs.Ytldlimkjhppjbaa.Gen
open Go Go.Proofs.Ytldlimkjhppjbaa.Abs Go.RowKit
variable {g : G} {n : Nat}
theorem flat_len12 : ∀ (txs : List (List TxT)), (∀ ts ∈ txs, ts.length ≤ 12) → txs.flatten.length ≤ 12 * txs.length
  | [], _ => by simp
  | a :: r, h => by
    have := flat_len12 r (fun ts hts => h ts (List.mem_cons_of_mem _ hts))
    have := h a (by simp)
    simp only [List.flatten_cons, List.length_append, List.length_cons]
    omega
set_option maxHeartbeats 1000000 in
theorem Check_spec {h : Hp} {xs : List Ev} {txs : List (List TxT)} {vm vt vx : Value} {m : List Int} (hm : Sl encW 1 g vm m) (hml : m.length ≤ 1000) (hT : SlR TsC 1 g vt txs) (hF : Fair27 txs) (hv : Sl encE 5 g vx xs) (hlen : xs.length < 1000000) {K : Cont}
    (hK : ∀ g' n', Sub g g' → K (.tuple #[.int .i64 (checkR h m txs xs).1, .int .i64 (checkR h m txs xs).2]) g' n') : AC serial_Check_id [.agg (encH h).toArray, vm, vt, vx] g n K := by
  refine ACalls.fold X0_mono ?_
  rw [← serial_Check_eq]
  simp only [serial_Check, kAgg_a]
  intro hn
  have s1 := (Sub.refl g).new hn (some (.cells (encH h) .exact))
  have hb1 : upd g n (some (.cells (encH h) .exact)) n = some (.cells (encH h) .exact) := upd_same _ _ _
  generalize upd g n (some (.cells (encH h) .exact)) = g1 at s1 hb1
  refine ldH hb1 (GoodH_spec fun g2 n2 s2 => ?_)
  rw [kUn_not]
  have hb2 := s2.live hb1
  have j1 : ∀ (t : Env) (x : Bool) (g3 : G) (n3 : Nat), OrS t 26 31 x → (x = true ↔ ¬ (GoodH h ∧ (m.length : Int) = wordsH h)) → Sub g1 g3 → t 4 = ptr n 0 → t 2 = vt → t 1 = vm → t 3 = vx → serial_Check_j1 AC K t g3 n3 := by
    intro t x g3 n3 hO hx s3 q4 q2 q1 q3
    simp only [serial_Check_j1, q2, q4, kPtr_p]
    have s03 := s1.trans s3
    refine hO.go (fun hxt _ => aRet_of (Sub.refl _) ?_) (fun hxf b => ?_)
    · have := hK g3 n3 s03
      unfold checkR at this; rw [if_neg (fun ⟨h1, h2, _⟩ => hx.1 hxt ⟨h1, h2⟩)] at this; exact this
    have hG : GoodH h ∧ (m.length : Int) = wordsH h := Classical.byContradiction fun hc => by rw [hx.2 hc] at hxf; cases hxf
    have hT3 := hT.mono (fun c x h => TsC.mono s03 c x h) s03
    refine hT3.len (kLd_of (s3.live hb1) rfl ?_)
    rw [kBin_neq]
    refine kSplit_d (fun hc => aRet_of (Sub.refl _) ?_) (fun hc => ?_)
    · have := hK g3 n3 s03
      unfold checkR at this; rw [if_neg (fun ⟨_, _, h3⟩ => hc h3)] at this; exact this
    have hcond : GoodH h ∧ (m.length : Int) = wordsH h ∧ (txs.length : Int) = h.cores := ⟨hG.1, hG.2, Classical.byContradiction hc⟩
    have h0 : 0 < m.length := by
      have h2 := hG.2
      unfold wordsH at h2; rw [if_pos hG.1] at h2
      obtain ⟨_, _, _, h3, _⟩ := hG.1
      omega
    refine Concat_spec hT3 hF (fun v42 g4 n4 s4 h42 => ?_)
    have s04 := s03.trans s4
    have hfl := flat_len12 txs (fun ts hts => (hF.2 ts hts).1)
    have h10 := hF.1
    refine h42.len ?_
    refine lfp_ind (m := txs.flatten.length) (Inv := fun mm e g5 n5 => ∃ j : Nat, mm + j = txs.flatten.length ∧ e 42 = v42 ∧ e 43 = .int .i64 (txs.flatten.length : Nat) ∧ e 44 = .int .i64 (j : Nat) ∧ e 1 = vm ∧ e 2 = vt ∧ e 3 = vx ∧ e 4 = ptr n 0 ∧ Sub g4 g5 ∧ ∀ x ∈ txs.flatten.take j, GoodT x.ops) ?_ ⟨0, by omega, rfl, rfl, rfl, q1, q2, q3, q4, Sub.refl _, by simp⟩
    rintro I mm e g5 n5 ih ⟨j, hm', e42, e43, e44, e1, e2, e3, e4, s5, hall⟩
    have s05 := s04.trans s5
    simp only [serial_Check_l2, e42, e43, e44, kBin_lss]
    refine kSplit_d (fun hj => ?_) (fun hj => ?_)
    · have hj : j < txs.flatten.length := by omega
      have hget : txs.flatten[j]? = some txs.flatten[j] := List.getElem?_eq_getElem hj
      generalize txs.flatten[j] = tx at hget
      have hmem := List.mem_of_getElem? hget
      refine h42.idx hget (fun l o c ha hc hx => ?_)
      obtain ⟨vo, rfl, ho⟩ := hx
      have ho5 := ho.mono s5
      simp only [kPtr_p]
      refine (ha.mono s5).ldN rfl (fun hn5 => copyTx (Sl.isCell ho) hn5 rfl fun s6 hb6 => ?_)
      refine kLdN_of hb6 (by simp) (Good_spec (ho5.mono s6) ?_ fun g7 n7 s7 => ?_)
      · obtain ⟨ts, hts, htx⟩ := List.mem_flatten.1 hmem
        have := (hF.2 ts hts).2 tx htx; omega
      rw [kUn_not]
      by_cases hO : GoodT tx.ops
      · refine kSplit_f (by simp [hO]) ?_
        rw [kBin_add, wrap64_of (by omega) (by omega), show ((j : Nat) : Int) + 1 = ((j + 1 : Nat) : Int) by omega]
        refine ih (mm - 1) _ _ _ (by omega) ⟨j + 1, by omega, e42, e43, rfl, e1, e2, e3, e4, (s5.trans s6).trans s7, fun x hx => ?_⟩
        rw [take_add hget] at hx
        rcases List.mem_append.1 hx with hx | hx
        · exact hall x hx
        · simp at hx; subst hx; exact hO
      · refine kSplit_t (by simp [hO]) (aRet_of (Sub.refl _) ?_)
        have := hK g7 n7 ((s05.trans s6).trans s7)
        have hno : ¬ AllGood txs := fun h => by
          obtain ⟨ts, hts, htx⟩ := List.mem_flatten.1 hmem
          exact hO (h ts hts tx htx)
        unfold checkR at this; rw [if_pos hcond, if_neg hno] at this; exact this
    · rw [List.take_of_length_le (by omega)] at hall
      have hAG : AllGood txs := fun ts hts t ht => hall t (List.mem_flatten.2 ⟨ts, hts, ht⟩)
      have hb5 : g5 n = some (.cells (encH h) .exact) := (s3.trans (s4.trans s5)).live hb1
      have j3 : ∀ t : Env, t 1 = vm → t 2 = vt → t 3 = vx → t 4 = ptr n 0 → serial_Check_j3 AC K t g5 n5 := by
        intro t q1 q2 q3 q4
        simp only [serial_Check_j3, q3, q4, kPtr_p]
        refine ldH hb5 (ldH hb5 (Begins_spec (hv.mono s05) hlen fun v54 g7 n7 s7 o54 f54 => ⟨(s7.live hb5).trans hb5.symm, ?_⟩))
        refine told_spec ((hv.mono s05).mono s7) hlen (fun lm ms g8 n8 s8 hM hTM => ?_)
        have s08 := (s05.trans s7).trans s8
        refine (o54.mono s8).sl.len ?_
        refine loop_spec (h := h) (xs := xs) (txs := txs) (vx := vx) (m := m) (res := checkR h m txs xs) (bs0 := begH h xs) ((s7.trans s8).live hb5) (hT.mono (fun c x h => TsC.mono s08 c x h) s08) (o54.mono s8).sl hM hTM hAG begH_told hlen (by have := begH_len h xs; omega) (by omega) h0 hml (fun g' n' s' => hK g' n' (s08.trans s')) (begH h xs).length _ g8 n8 ⟨0, vm, m, by omega, rfl, rfl, rfl, rfl, rfl, q1, q2, q4, Sub.refl _, hm.mono s08, rfl, ?_⟩
        rw [List.drop_zero]
        unfold checkR; rw [if_pos hcond, if_pos hAG]
      exact j3 _ e1 e2 e3 e4
  by_cases hG : GoodH h
  · refine kSplit_f (by simp [hG]) (((hm.mono s1).mono s2).len (ldH hb2 (Wds_spec fun g3 n3 s3 => ?_)))
    rw [kBin_neq]
    refine j1 _ (decide (¬ (m.length : Int) = wordsH h)) g3 n3 (.inr ⟨rfl, rfl⟩) ?_ (s2.trans s3) rfl rfl rfl rfl
    simp [hG]
  · refine kSplit_t (by simp [hG]) (j1 _ true g2 n2 (.inl ⟨rfl, rfl⟩) ?_ s2 rfl rfl rfl rfl)
    simp [hG]
end Go.Proofs.Ytldlimkjhppjbaa.Gen

namespace Go.Proofs.Ytldlimkjhppjbaa.Gen
open Go Go.Proofs.Ytldlimkjhppjbaa.Abs Go.RowKit
variable {g : G} {n : Nat}
def R0 : G → List Value → Unit → Prop := fun _ _ _ => True
theorem BB0.next {z : Nat} {gS g g1 : G} {v : Value} {us : List Unit} (h : BB R0 z gS g v us) (s : Sub g g1) : BB R0 z (hideV g1 v) g1 v us ∧ Sub gS (hideV g1 v) ∧ ∀ l b, g1 l = some b → g l = none → hideV g1 v l = some b := by
  obtain ⟨⟨els, h1, h2, h3⟩, hs, hl⟩ := h
  refine ⟨⟨⟨els, h1.mono s, h2, fun i c x hc hx => ⟨(h3 i c x hc hx).1, fun _ _ => trivial⟩⟩, Sub.refl _, fun l hl' => let ⟨b, hb⟩ := hl l hl'; ⟨b, s.live hb⟩⟩, fun l => ?_, fun l b h1 h2 => ?_⟩
  · cases hq : gS l with
    | none => exact .inl rfl
    | some b =>
      have := hs.live hq
      obtain ⟨q1, q2⟩ := hideV_some.1 this
      exact .inr (hideV_some.2 ⟨q1, s.live q2⟩).symm
  · refine hideV_some.2 ⟨fun hm => ?_, h1⟩
    obtain ⟨b', hb'⟩ := hl l hm; rw [h2] at hb'; cases hb'
theorem fill7 {a b va vb e d : Value} (ha : Abs.isCell a = true) (hb : Abs.isCell b = true) (he : Abs.isCell e = true) (hd : Abs.isCell d = true) (K : List Value → Prop) (k : K [a, b, va, vb, .int .i64 0, e, d]) :
    kFill [(.int .i64 0), (.int .i64 0), (.slice none 0 0), (.slice none 0 0), (.int .i64 0), (.slice none 0 0), (.bool false)] [(0, none, a), (1, none, b), (2, (some 3), .agg (rCells va vb).toArray), (5, none, e), (6, none, d)] K :=
  ⟨ha, by simp, hb, by simp, rfl, by simp [rCells], he, by simp [splice, rCells], hd, by simp [splice, rCells], k⟩
theorem fill71 {a b va vb e d : Value} (K : List Value → Prop) (k : K [a, b, va, vb, .int .i64 0, e, d]) :
    kFill (reps 1 [(.int .i64 0), (.int .i64 0), (.slice none 0 0), (.slice none 0 0), (.int .i64 0), (.slice none 0 0), (.bool false)]) [(0, (some 7), .agg ([a, b, va, vb, .int .i64 0, e, d] : List Value).toArray)] K := ⟨rfl, by simp [reps], k⟩
abbrev zC : List Value := [(.slice none 0 0), (.int .i64 0), (.int .i64 0)]
theorem fillX {a e : Int} (K : List Value → Prop) (k : K [.slice none 0 0, .int .i64 a, .int .i64 e]) : kFill zC [(1, none, .int .i64 a), (2, none, .int .i64 e)] K := ⟨rfl, by simp, rfl, by simp, k⟩
theorem fillX1 {e : Int} (K : List Value → Prop) (k : K [.slice none 0 0, .int .i64 0, .int .i64 e]) : kFill zC [(2, none, .int .i64 e)] K := ⟨rfl, by simp, k⟩
theorem fillX2 {w : Value} {a : Int} (hw : Abs.isCell w = true) (K : List Value → Prop) (k : K [w, .int .i64 a, .int .i64 0]) : kFill zC [(0, none, w), (1, none, .int .i64 a)] K := ⟨hw, by simp, rfl, by simp, k⟩
theorem ldR {l : Nat} {a b : Value} {bk : BK} {K : List Value → Prop} (h : g l = some (.cells (rCells a b) bk)) (k : K (rCells a b)) : kLdN g l 0 3 K := kLdN_of h (by simp [rCells]) k
/-- the result's block is filled and told -/
theorem exit_spec {l8 : Nat} {g0 gx : G} {w : Value} {at_ e : Int} {K : Cont} (hs : Sub g0 gx) (h0 : g0 l8 = none) (h8 : gx l8 = some (.cells zC .exact)) (hw : Abs.isCell w = true) (hK : ∀ vl g' n', Abs.isCell vl = true → Sub g0 g' → K (.agg ([vl, .int .i64 at_, .int .i64 e] : List Value).toArray) g' n') :
    ([w, .int .i64 at_, .int .i64 e] : List Value).length = 3 ∧ kStN gx l8 0 [w, .int .i64 at_, .int .i64 e] fun g' => kLdN g' l8 0 3 fun r0 => aRet K (.agg r0.toArray) g' n := by
  refine ⟨rfl, kStN_of h8 rfl (by simp) (by simp [hw]; exact ⟨rfl, rfl⟩) (kLdN_of (upd_same _ _ _) (by simp [splice]) (aRet_of (Sub.refl _) ?_))⟩
  refine hK w _ _ hw fun l => ?_
  by_cases e : l = l8
  · subst e; exact .inl h0
  · rw [upd_ne _ _ e]; exact hs l
/-- a transaction's run, put into a block -/
theorem putR {gA gL gR : G} {l18 : Nat} {va vb : Value} {ra rb : List Int} (s1 : Sub gA gL) (hA : gA l18 = none) (hL : gL l18 = some (.cells zR .exact)) (s2 : Sub gL gR) (oa : OwnS encW 1 none0 gR va ra) (ob : OwnS encW 1 none0 gR vb rb) (na : l18 ∉ blks va) (nb : l18 ∉ blks vb) {K : G → Prop}
    (hK : ∀ gX, Sub gA gX → gX l18 = some (.cells (rCells va vb) .exact) → OwnS encW 1 none0 gX va ra → OwnS encW 1 none0 gX vb rb → K gX) : (rCells va vb).length = 3 ∧ kStN gR l18 0 (rCells va vb) K := by
  refine ⟨by simp [rCells], kStN_of (s2.live hL) rfl (by simp [rCells]) (by simp [rCells, oa.isCell, ob.isCell]; rfl) ?_⟩
  refine hK _ (fun l => ?_) (upd_same _ _ _) (oa.keepB fun l b q1 q2 => ?_) (ob.keepB fun l b q1 q2 => ?_)
  · by_cases e : l = l18
    · subst e; exact .inl hA
    · rw [upd_ne _ _ e]; exact (s1.trans s2) l
  · rw [upd_ne _ _ (fun e : l = l18 => na (e ▸ q2))]; exact q1
  · rw [upd_ne _ _ (fun e : l = l18 => nb (e ▸ q2))]; exact q1
theorem BB.isCell {α : Type} {R : G → List Value → α → Prop} {z : Nat} {gS g : G} {v : Value} {xs : List α} (h : BB R z gS g v xs) : Abs.isCell v = true := by
  obtain ⟨⟨els, h1, _⟩, _⟩ := h
  rcases h1 with ⟨_, _, a, rfl, ha⟩ | ⟨l, c, bk, rfl, _⟩
  · rcases ha with rfl | ⟨_, _, rfl⟩ <;> rfl
  · rfl
set_option maxRecDepth 100000 in
set_option maxHeartbeats 4000000 in
theorem rloop_spec {h : Hp} {xs : List Ev} {txs : List (List TxT)} {v66 vt vx : Value} {l4 l8 : Nat} {bs0 : List (Int × Int)} {g0 gB : G} {m : List Int} {K : Cont} {res : Int × Int}
    (s0 : Sub g0 gB) (h0 : g0 l8 = none) (h8B : gB l8 = some (.cells zC .exact)) (hb4 : gB l4 = some (.cells (encH h) .exact)) (hT : SlR TsC 1 gB vt txs) (hB : Sl encJ 2 gB v66 bs0) (hv : Sl encE 5 gB vx xs) (hcap : Cap vx 5)
    (hAG : AllGood txs) (hbt : ∀ b ∈ bs0, 0 ≤ b.2 ∧ b.2 < ((toldH h b.1 xs).length : Int)) (hlen : xs.length < 1000000) (hbl : bs0.length < 1000000) (htl : txs.length < 1000000)
    (hml0 : 0 < m.length) (hml : m.length ≤ 1000) (hK : ∀ vl g' n', Abs.isCell vl = true → Sub g0 g' → K (.agg ([vl, .int .i64 res.1, .int .i64 res.2] : List Value).toArray) g' n') (mm : Nat) (t : Env) (g9 : G) (n9 : Nat)
    (h9 : ∃ (i : Nat) (gS : G) (w : Value) (us : List Unit) (vm : Value) (cm : List Int), mm + i = bs0.length ∧ t 2 = vt ∧ t 3 = vx ∧ t 4 = ptr l4 0 ∧ t 8 = ptr l8 0 ∧ t 11 = v66 ∧ t 12 = vm ∧ t 13 = w ∧ t 14 = .int .i64 (i : Nat) ∧ Sub gB gS ∧ Sl encW 1 gS vm cm ∧ BB R0 7 gS g9 w us ∧ us.length = i ∧ cm.length = m.length ∧ chk h xs txs (bs0.drop i) i cm = res) :
    lfp (bellowsref28_Check_l5 AC K) t g9 n9 := by
  refine lfp_ind (m := mm) (Inv := fun mm t g9 n9 => ∃ (i : Nat) (gS : G) (w : Value) (us : List Unit) (vm : Value) (cm : List Int), mm + i = bs0.length ∧ t 2 = vt ∧ t 3 = vx ∧ t 4 = ptr l4 0 ∧ t 8 = ptr l8 0 ∧ t 11 = v66 ∧ t 12 = vm ∧ t 13 = w ∧ t 14 = .int .i64 (i : Nat) ∧ Sub gB gS ∧ Sl encW 1 gS vm cm ∧ BB R0 7 gS g9 w us ∧ us.length = i ∧ cm.length = m.length ∧ chk h xs txs (bs0.drop i) i cm = res) ?_ h9
  clear h9
  rintro I mm t g9 n9 ih ⟨i, gS, w, us, vm, cm, hm, t2, t3, t4, t8, t11, t12, t13, t14, hgB, hvm, hBB, hus, hcl, hres⟩
  have sS := hBB.sub'
  have sB := hgB.trans sS
  have h8 := sB.live h8B
  have hb49 := sB.live hb4
  have hvm9 := hvm.mono sS
  have hT9 := hT.mono (fun c x h => TsC.mono sB c x h) sB
  have hB9 := hB.mono sB
  have hv9 := hv.mono sB
  have bad0 : chk h xs txs (bs0.drop i) i cm = ((i : Int), (16 : Int)) → ∀ n', ([.slice none 0 0, .int .i64 (i : Int), .int .i64 16] : List Value).length = 3 ∧ kStN g9 l8 0 [.slice none 0 0, .int .i64 (i : Int), .int .i64 16] fun g' => kLdN g' l8 0 3 fun r0 => aRet K (.agg r0.toArray) g' n' := fun hc n' => by
    rw [hc] at hres; rw [← hres] at hK
    exact exit_spec (s0.trans sB) h0 h8 rfl hK
  simp only [bellowsref28_Check_l5, t2, t3, t4, t8, t11, t12, t13, t14, kPtr_p, kAgg_a]
  refine hB9.len ?_
  rw [kBin_lss]
  refine kSplit_d (fun hj => ?_) (fun hj => ?_)
  · have hj : i < bs0.length := by omega
    have hget : bs0[i]? = some bs0[i] := List.getElem?_eq_getElem hj
    generalize bs0[i] = b at hget
    have hmem := List.mem_of_getElem? hget
    obtain ⟨hb0, hb1⟩ := hbt b hmem
    rw [drop_get hget] at hres bad0
    refine hB9.idx encJ_len hget (fun l o ha => kIA0 ?_)
    rw [kPtr_p]
    refine ha.ld (i := 0) rfl (hB9.idx encJ_len hget (fun l o ha => kIA1 ?_))
    rw [kPtr_p]
    refine ha.ld (i := 1) rfl ?_
    rw [kBin_lss]
    refine kSplit_d (fun hx0 => fillX _ (bad0 ?_ _)) (fun hx0 => ?_)
    · unfold chk; rw [if_pos (.inl hx0)]
    refine hT9.len ?_
    rw [kBin_geq]
    refine kSplit_d (fun hx1 => fillX _ (bad0 ?_ _)) (fun hx1 => ?_)
    · unfold chk; rw [if_pos (.inr (.inl hx1))]
    obtain ⟨c, hc⟩ : ∃ c : Nat, b.1 = (c : Int) := ⟨b.1.toNat, by omega⟩
    obtain ⟨k, hk⟩ : ∃ k : Nat, b.2 = (k : Int) := ⟨b.2.toNat, by omega⟩
    have hct : b.1.toNat = c := by omega
    have hkt : b.2.toNat = k := by omega
    have hcl' : c < txs.length := by omega
    have hgc : txs[c]? = some txs[c] := List.getElem?_eq_getElem hcl'
    have hgd : txs.getD c [] = txs[c] := getD_of hgc
    generalize txs[c] = ts at hgc hgd
    rw [hc, hk]
    refine hT9.idx hgc (fun l o cc ha hcz hx => ?_)
    obtain ⟨vr, rfl, hr⟩ := hx
    rw [kPtr_p]
    refine ha.ld (i := 0) rfl (hr.len ?_)
    rw [kBin_geq]
    refine kSplit_d (fun hkl => fillX _ (bad0 ?_ _)) (fun hkl => ?_)
    · unfold chk; rw [if_pos]; rw [hct, hgd]; exact .inr (.inr (by omega))
    have hkl' : k < ts.length := by omega
    have hgk : ts[k]? = some ts[k] := List.getElem?_eq_getElem hkl'
    have hgd2 : txAt txs b.1.toNat b.2.toNat = ts[k] := by unfold txAt; rw [hct, hkt, hgd]; exact getD_of hgk
    generalize ts[k] = tx at hgk hgd2
    have hgood : GoodT tx.ops := hAG ts (List.mem_of_getElem? hgc) tx (List.mem_of_getElem? hgk)
    refine ldH hb49 (rTold_spec hv9 hcap hlen (fun v106 css g14 n14 s14 hS f14 => ?_))
    refine ldH (s14.live hb49) (hT9.idx hgc (fun l2 o2 cc2 ha2 hcz2 hx2 => ?_))
    obtain ⟨vr2, rfl, hr2⟩ := hx2
    simp only [kPtr_p]
    have ha2 := ha2.mono s14
    refine ha2.ld (i := 0) rfl (hr2.idx hgk (fun l3 o3 cc3 ha3 hcz3 hx3 => ?_))
    obtain ⟨vo, rfl, ho⟩ := hx3
    simp only [kPtr_p]
    have ha3 := ha3.mono s14
    have ho14 := ho.mono s14
    have hvm14 := hvm9.mono s14
    have hb414 := s14.live hb49
    refine ha3.ldN rfl ?_
    obtain ⟨bs2, bk2, e2, _⟩ := id ha2
    obtain ⟨bs3, bk3, e3, _⟩ := id ha3
    have hrm := roomH_le h
    have hstep : chk h xs txs (b :: bs0.drop (i + 1)) i cm = if ((toldH h b.1 xs).getD k []).length ≤ (runTx (roomH h) tx cm).2.length ∧ (runTx (roomH h) tx cm).2.take ((toldH h b.1 xs).getD k []).length = (toldH h b.1 xs).getD k [] ∧ (b.2 = ((toldH h b.1 xs).length : Int) - 1 ∨ ((toldH h b.1 xs).getD k []).length = (runTx (roomH h) tx cm).2.length) then chk h xs txs (bs0.drop (i + 1)) (i + 1) (runTx (roomH h) tx cm).1 else ((i : Int), (16 : Int)) := by
      rw [chk, if_neg, hgd2, hkt]
      rw [hct, hgd]; omega
    have hRl := runTx_len (roomH h) tx cm
    have hRt := runTx_tl (roomH h) tx cm
    have hR0 : 0 < (runTx (roomH h) tx cm).2.length := by unfold runTx; simp
    have ho16 := hgood.1
    obtain ⟨hTl, hGl⟩ := toldH_lens (h := h) (c := b.1) (xs := xs) (k := k)
    have hkT : k < (toldH h b.1 xs).length := by omega
    rw [hc] at hstep hTl hGl hkT
    have run : ∀ {g : G} {n : Nat} {K : Cont}, Sub g14 g → (∀ va vt g' n', Sub g g' → OwnS encW 1 none0 g' va (runTx (roomH h) tx cm).1 → OwnS encW 1 none0 g' vt (runTx (roomH h) tx cm).2 → (∀ l ∈ blks va, g l = none) → (∀ l ∈ blks vt, g l = none) → K (.agg (rCells va vt).toArray) g' n') →
        AC bellowsref26_Run_id [vm, .int .i64 (roomH h), .agg ([vo, .bool tx.abort] : List Value).toArray] g n K := fun s hk => rRun_spec (hvm14.mono s) (ho14.mono s) hgood hrm.1 (by omega) (by omega) (by omega) hk
    generalize runTx (roomH h) tx cm = rr at run hstep hRl hRt hR0
    obtain ⟨ra, rb⟩ := rr
    generalize toldH h (c : Int) xs = T at hS hstep hTl hGl hkT
    generalize hgot : T.getD k [] = got at hstep hGl
    simp only at run hstep hRl hRt hR0
    refine ⟨rRoom_spec fun g15 n15 s15 => ⟨(s15.live e2).trans e2.symm, (s15.live e3).trans e3.symm, run s15 (fun va vb g16 n16 s16 oa ob fa fb hn16 => ⟨upd_ne _ _ (ne_of_live ((s15.trans s16).live hb414) hn16).symm, upd_ne _ _ (ne_of_live ((s15.trans s16).live e2) hn16).symm, upd_ne _ _ (ne_of_live ((s15.trans s16).live e3) hn16).symm, ?_⟩), fun hn15 => ⟨upd_ne _ _ (ne_of_live (s15.live hb414) hn15).symm, upd_ne _ _ (ne_of_live (s15.live e2) hn15).symm, upd_ne _ _ (ne_of_live (s15.live e3) hn15).symm, run (s15.new hn15 _) (fun va vb g16 n16 s16 oa ob fa fb => ?_)⟩⟩, fun hn14 => ⟨upd_ne _ _ (ne_of_live hb414 hn14).symm, upd_ne _ _ (ne_of_live e2 hn14).symm, upd_ne _ _ (ne_of_live e3 hn14).symm, rRoom_spec fun g15 n15 s15 => ⟨?_, ?_, run (((Sub.refl g14).new hn14 _).trans s15) (fun va vb g16 n16 s16 oa ob fa fb => ?_)⟩⟩⟩
    · rw [kAgg_a]
      have sN := (Sub.refl g16).new hn16 (some (.cells zR .exact))
      refine putR (gA := g14) ((s15.trans s16).trans sN) ((s15.trans s16).none hn16) (upd_same _ _ _) (Sub.refl _) (oa.mono sN) (ob.mono sN) (fun hm => by obtain ⟨b, hb⟩ := oa.there _ hm (by omega); rw [hn16] at hb; cases hb) (fun hm => by obtain ⟨b, hb⟩ := ob.there _ hm (by omega); rw [hn16] at hb; cases hb) (fun gX sX hX oa ob => ?_)
      have fa : ∀ l ∈ blks va, g14 l = none := fun l hl => s15.none (fa l hl)
      have hSX := hS.mono sX
      have hs0X := s0.trans ((hgB.trans hBB.sub').trans (s14.trans sX))
      have h8X := sX.live (s14.live h8)
      have bad : chk h xs txs (b :: bs0.drop (i + 1)) i cm = ((i : Int), (16 : Int)) → ∀ n', ([.slice none 0 0, .int .i64 (i : Int), .int .i64 16] : List Value).length = 3 ∧ kStN gX l8 0 [.slice none 0 0, .int .i64 (i : Int), .int .i64 16] fun g' => kLdN g' l8 0 3 fun r0 => aRet K (.agg r0.toArray) g' n' := fun hc n' => by
        rw [hc] at hres; rw [← hres] at hK
        exact exit_spec hs0X h0 h8X rfl hK
      refine hSX.ho.sl.len ?_
      rw [hSX.len, kBin_sub, wrap64_of (by omega) (by omega), kBin_eql]
      refine kLd_of hX rfl (SSget hSX hkT (fun l o cg _ _ og hld => ?_))
      rw [hgot] at og
      rw [kPtr_p]
      refine hld _ (BeginsW_spec ob.sl ob.cap og.sl (by omega) (fun nY => ?_))
      rw [kUn_not]
      by_cases hbeg : got.length ≤ rb.length ∧ rb.take got.length = got
      · refine kSplit_f (by rw [decide_eq_true hbeg]; rfl) ?_
        rw [kUn_not]
        by_cases hl : (k : Int) = (T.length : Int) - 1
        · refine kSplit_f (by rw [decide_eq_true hl]; rfl) ?_
          rw [hstep, if_pos ⟨hbeg.1, hbeg.2, .inl (by omega)⟩] at hres
          refine kLd_of hX rfl (ldR hX (SSget hSX hkT (fun l2 o2 cg2 _ _ og2 hld2 => ?_)))
          rw [kPtr_p]
          refine hld2 _ (fill7 rfl rfl og2.isCell rfl _ (fill71 _ (fun hnz => ?_)))
          obtain ⟨hB1, hS1, hD1⟩ := BB0.next hBB (s14.trans sX)
          refine hB1.app (x := ()) (Sub.refl _) rfl (by simp [og2.isCell, oa.isCell, ob.isCell]; exact ⟨rfl, rfl, rfl, rfl⟩) (fun _ _ => trivial) hnz (by decide) (by omega) (fun v' g' n' hB2 => ?_)
          rw [kBin_add, wrap64_of (by omega) (by omega), show ((i : Nat) : Int) + 1 = ((i + 1 : Nat) : Int) by omega]
          refine ih (mm - 1) _ _ _ (by omega) ⟨i + 1, hideV gX w, v', us ++ [()], va, ra, by omega, t2, t3, t4, t8, t11, rfl, rfl, rfl, hgB.trans hS1, ?_, hB2, by simp [hus], by omega, hres⟩
          obtain ⟨a, cc, eva, p1, p2, p3⟩ := oa.sl
          refine ⟨a, cc, eva, p1, p2, fun h0 => ?_⟩
          obtain ⟨l, o, bs, bk, rfl, hg, p4⟩ := p3 h0
          exact ⟨l, o, bs, bk, rfl, hD1 l _ hg (s14.none (fa l (by rw [eva]; simp [blks, blkOf]))), p4⟩
        · refine kSplit_t (by rw [decide_eq_false hl]; rfl) ?_
          refine SSget hSX hkT (fun l3 o3 cg3 _ _ og3 hld3 => ?_)
          rw [hgot] at og3
          rw [kPtr_p]
          refine hld3 _ (og3.sl.len (kLd_of hX rfl (ob.sl.len ?_)))
          rw [kBin_neq]
          refine kSplit_d (fun hne => fillX _ (bad ?_ _)) (fun hne => ?_)
          · rw [hstep, if_neg]; rintro ⟨_, _, h3⟩; rcases h3 with h3 | h3
            · omega
            · omega
          · rw [hstep, if_pos ⟨hbeg.1, hbeg.2, .inr (by omega)⟩] at hres
            refine kLd_of hX rfl (ldR hX (SSget hSX hkT (fun l2 o2 cg2 _ _ og2 hld2 => ?_)))
            rw [kPtr_p]
            refine hld2 _ (fill7 rfl rfl og2.isCell rfl _ (fill71 _ (fun hnz => ?_)))
            obtain ⟨hB1, hS1, hD1⟩ := BB0.next hBB (s14.trans sX)
            refine hB1.app (x := ()) (Sub.refl _) rfl (by simp [og2.isCell, oa.isCell, ob.isCell]; exact ⟨rfl, rfl, rfl, rfl⟩) (fun _ _ => trivial) hnz (by decide) (by omega) (fun v' g' n' hB2 => ?_)
            rw [kBin_add, wrap64_of (by omega) (by omega), show ((i : Nat) : Int) + 1 = ((i + 1 : Nat) : Int) by omega]
            refine ih (mm - 1) _ _ _ (by omega) ⟨i + 1, hideV gX w, v', us ++ [()], va, ra, by omega, t2, t3, t4, t8, t11, rfl, rfl, rfl, hgB.trans hS1, ?_, hB2, by simp [hus], by omega, hres⟩
            obtain ⟨a, cc, eva, p1, p2, p3⟩ := oa.sl
            refine ⟨a, cc, eva, p1, p2, fun h0 => ?_⟩
            obtain ⟨l, o, bs, bk, rfl, hg, p4⟩ := p3 h0
            exact ⟨l, o, bs, bk, rfl, hD1 l _ hg (s14.none (fa l (by rw [eva]; simp [blks, blkOf]))), p4⟩
      · refine kSplit_t (by rw [decide_eq_false hbeg]; rfl) (fillX _ (bad ?_ _))
        rw [hstep, if_neg]; rintro ⟨h1, h2, _⟩; exact hbeg ⟨h1, h2⟩
    · rw [kAgg_a]
      have hL : upd g15 n15 (some (.cells zR .exact)) n15 = some (.cells zR .exact) := upd_same _ _ _
      refine putR (gA := g14) (s15.new hn15 _) (s15.none hn15) hL s16 oa ob (fun hm => by have := fa _ hm; rw [hL] at this; cases this) (fun hm => by have := fb _ hm; rw [hL] at this; cases this) (fun gX sX hX oa ob => ?_)
      have fa : ∀ l ∈ blks va, g14 l = none := fun l hl => (s15.new hn15 _).none (fa l hl)
      have hSX := hS.mono sX
      have hs0X := s0.trans ((hgB.trans hBB.sub').trans (s14.trans sX))
      have h8X := sX.live (s14.live h8)
      have bad : chk h xs txs (b :: bs0.drop (i + 1)) i cm = ((i : Int), (16 : Int)) → ∀ n', ([.slice none 0 0, .int .i64 (i : Int), .int .i64 16] : List Value).length = 3 ∧ kStN gX l8 0 [.slice none 0 0, .int .i64 (i : Int), .int .i64 16] fun g' => kLdN g' l8 0 3 fun r0 => aRet K (.agg r0.toArray) g' n' := fun hc n' => by
        rw [hc] at hres; rw [← hres] at hK
        exact exit_spec hs0X h0 h8X rfl hK
      refine hSX.ho.sl.len ?_
      rw [hSX.len, kBin_sub, wrap64_of (by omega) (by omega), kBin_eql]
      refine kLd_of hX rfl (SSget hSX hkT (fun l o cg _ _ og hld => ?_))
      rw [hgot] at og
      rw [kPtr_p]
      refine hld _ (BeginsW_spec ob.sl ob.cap og.sl (by omega) (fun nY => ?_))
      rw [kUn_not]
      by_cases hbeg : got.length ≤ rb.length ∧ rb.take got.length = got
      · refine kSplit_f (by rw [decide_eq_true hbeg]; rfl) ?_
        rw [kUn_not]
        by_cases hl : (k : Int) = (T.length : Int) - 1
        · refine kSplit_f (by rw [decide_eq_true hl]; rfl) ?_
          rw [hstep, if_pos ⟨hbeg.1, hbeg.2, .inl (by omega)⟩] at hres
          refine kLd_of hX rfl (ldR hX (SSget hSX hkT (fun l2 o2 cg2 _ _ og2 hld2 => ?_)))
          rw [kPtr_p]
          refine hld2 _ (fill7 rfl rfl og2.isCell rfl _ (fill71 _ (fun hnz => ?_)))
          obtain ⟨hB1, hS1, hD1⟩ := BB0.next hBB (s14.trans sX)
          refine hB1.app (x := ()) (Sub.refl _) rfl (by simp [og2.isCell, oa.isCell, ob.isCell]; exact ⟨rfl, rfl, rfl, rfl⟩) (fun _ _ => trivial) hnz (by decide) (by omega) (fun v' g' n' hB2 => ?_)
          rw [kBin_add, wrap64_of (by omega) (by omega), show ((i : Nat) : Int) + 1 = ((i + 1 : Nat) : Int) by omega]
          refine ih (mm - 1) _ _ _ (by omega) ⟨i + 1, hideV gX w, v', us ++ [()], va, ra, by omega, t2, t3, t4, t8, t11, rfl, rfl, rfl, hgB.trans hS1, ?_, hB2, by simp [hus], by omega, hres⟩
          obtain ⟨a, cc, eva, p1, p2, p3⟩ := oa.sl
          refine ⟨a, cc, eva, p1, p2, fun h0 => ?_⟩
          obtain ⟨l, o, bs, bk, rfl, hg, p4⟩ := p3 h0
          exact ⟨l, o, bs, bk, rfl, hD1 l _ hg (s14.none (fa l (by rw [eva]; simp [blks, blkOf]))), p4⟩
        · refine kSplit_t (by rw [decide_eq_false hl]; rfl) ?_
          refine SSget hSX hkT (fun l3 o3 cg3 _ _ og3 hld3 => ?_)
          rw [hgot] at og3
          rw [kPtr_p]
          refine hld3 _ (og3.sl.len (kLd_of hX rfl (ob.sl.len ?_)))
          rw [kBin_neq]
          refine kSplit_d (fun hne => fillX _ (bad ?_ _)) (fun hne => ?_)
          · rw [hstep, if_neg]; rintro ⟨_, _, h3⟩; rcases h3 with h3 | h3
            · omega
            · omega
          · rw [hstep, if_pos ⟨hbeg.1, hbeg.2, .inr (by omega)⟩] at hres
            refine kLd_of hX rfl (ldR hX (SSget hSX hkT (fun l2 o2 cg2 _ _ og2 hld2 => ?_)))
            rw [kPtr_p]
            refine hld2 _ (fill7 rfl rfl og2.isCell rfl _ (fill71 _ (fun hnz => ?_)))
            obtain ⟨hB1, hS1, hD1⟩ := BB0.next hBB (s14.trans sX)
            refine hB1.app (x := ()) (Sub.refl _) rfl (by simp [og2.isCell, oa.isCell, ob.isCell]; exact ⟨rfl, rfl, rfl, rfl⟩) (fun _ _ => trivial) hnz (by decide) (by omega) (fun v' g' n' hB2 => ?_)
            rw [kBin_add, wrap64_of (by omega) (by omega), show ((i : Nat) : Int) + 1 = ((i + 1 : Nat) : Int) by omega]
            refine ih (mm - 1) _ _ _ (by omega) ⟨i + 1, hideV gX w, v', us ++ [()], va, ra, by omega, t2, t3, t4, t8, t11, rfl, rfl, rfl, hgB.trans hS1, ?_, hB2, by simp [hus], by omega, hres⟩
            obtain ⟨a, cc, eva, p1, p2, p3⟩ := oa.sl
            refine ⟨a, cc, eva, p1, p2, fun h0 => ?_⟩
            obtain ⟨l, o, bs, bk, rfl, hg, p4⟩ := p3 h0
            exact ⟨l, o, bs, bk, rfl, hD1 l _ hg (s14.none (fa l (by rw [eva]; simp [blks, blkOf]))), p4⟩
      · refine kSplit_t (by rw [decide_eq_false hbeg]; rfl) (fillX _ (bad ?_ _))
        rw [hstep, if_neg]; rintro ⟨h1, h2, _⟩; exact hbeg ⟨h1, h2⟩
    · rw [s15.live (upd_live e2 hn14 _)]; exact (upd_live e2 hn14 _).symm
    · rw [s15.live (upd_live e3 hn14 _)]; exact (upd_live e3 hn14 _).symm
    · rw [kAgg_a]
      have hL0 : upd g14 n14 (some (.cells zR .exact)) n14 = some (.cells zR .exact) := upd_same _ _ _
      have hL := s15.live hL0
      refine putR (gA := g14) (((Sub.refl g14).new hn14 _).trans s15) hn14 hL s16 oa ob (fun hm => by have := fa _ hm; rw [hL] at this; cases this) (fun hm => by have := fb _ hm; rw [hL] at this; cases this) (fun gX sX hX oa ob => ?_)
      have fa : ∀ l ∈ blks va, g14 l = none := fun l hl => (((Sub.refl g14).new hn14 _).trans s15).none (fa l hl)
      have hSX := hS.mono sX
      have hs0X := s0.trans ((hgB.trans hBB.sub').trans (s14.trans sX))
      have h8X := sX.live (s14.live h8)
      have bad : chk h xs txs (b :: bs0.drop (i + 1)) i cm = ((i : Int), (16 : Int)) → ∀ n', ([.slice none 0 0, .int .i64 (i : Int), .int .i64 16] : List Value).length = 3 ∧ kStN gX l8 0 [.slice none 0 0, .int .i64 (i : Int), .int .i64 16] fun g' => kLdN g' l8 0 3 fun r0 => aRet K (.agg r0.toArray) g' n' := fun hc n' => by
        rw [hc] at hres; rw [← hres] at hK
        exact exit_spec hs0X h0 h8X rfl hK
      refine hSX.ho.sl.len ?_
      rw [hSX.len, kBin_sub, wrap64_of (by omega) (by omega), kBin_eql]
      refine kLd_of hX rfl (SSget hSX hkT (fun l o cg _ _ og hld => ?_))
      rw [hgot] at og
      rw [kPtr_p]
      refine hld _ (BeginsW_spec ob.sl ob.cap og.sl (by omega) (fun nY => ?_))
      rw [kUn_not]
      by_cases hbeg : got.length ≤ rb.length ∧ rb.take got.length = got
      · refine kSplit_f (by rw [decide_eq_true hbeg]; rfl) ?_
        rw [kUn_not]
        by_cases hl : (k : Int) = (T.length : Int) - 1
        · refine kSplit_f (by rw [decide_eq_true hl]; rfl) ?_
          rw [hstep, if_pos ⟨hbeg.1, hbeg.2, .inl (by omega)⟩] at hres
          refine kLd_of hX rfl (ldR hX (SSget hSX hkT (fun l2 o2 cg2 _ _ og2 hld2 => ?_)))
          rw [kPtr_p]
          refine hld2 _ (fill7 rfl rfl og2.isCell rfl _ (fill71 _ (fun hnz => ?_)))
          obtain ⟨hB1, hS1, hD1⟩ := BB0.next hBB (s14.trans sX)
          refine hB1.app (x := ()) (Sub.refl _) rfl (by simp [og2.isCell, oa.isCell, ob.isCell]; exact ⟨rfl, rfl, rfl, rfl⟩) (fun _ _ => trivial) hnz (by decide) (by omega) (fun v' g' n' hB2 => ?_)
          rw [kBin_add, wrap64_of (by omega) (by omega), show ((i : Nat) : Int) + 1 = ((i + 1 : Nat) : Int) by omega]
          refine ih (mm - 1) _ _ _ (by omega) ⟨i + 1, hideV gX w, v', us ++ [()], va, ra, by omega, t2, t3, t4, t8, t11, rfl, rfl, rfl, hgB.trans hS1, ?_, hB2, by simp [hus], by omega, hres⟩
          obtain ⟨a, cc, eva, p1, p2, p3⟩ := oa.sl
          refine ⟨a, cc, eva, p1, p2, fun h0 => ?_⟩
          obtain ⟨l, o, bs, bk, rfl, hg, p4⟩ := p3 h0
          exact ⟨l, o, bs, bk, rfl, hD1 l _ hg (s14.none (fa l (by rw [eva]; simp [blks, blkOf]))), p4⟩
        · refine kSplit_t (by rw [decide_eq_false hl]; rfl) ?_
          refine SSget hSX hkT (fun l3 o3 cg3 _ _ og3 hld3 => ?_)
          rw [hgot] at og3
          rw [kPtr_p]
          refine hld3 _ (og3.sl.len (kLd_of hX rfl (ob.sl.len ?_)))
          rw [kBin_neq]
          refine kSplit_d (fun hne => fillX _ (bad ?_ _)) (fun hne => ?_)
          · rw [hstep, if_neg]; rintro ⟨_, _, h3⟩; rcases h3 with h3 | h3
            · omega
            · omega
          · rw [hstep, if_pos ⟨hbeg.1, hbeg.2, .inr (by omega)⟩] at hres
            refine kLd_of hX rfl (ldR hX (SSget hSX hkT (fun l2 o2 cg2 _ _ og2 hld2 => ?_)))
            rw [kPtr_p]
            refine hld2 _ (fill7 rfl rfl og2.isCell rfl _ (fill71 _ (fun hnz => ?_)))
            obtain ⟨hB1, hS1, hD1⟩ := BB0.next hBB (s14.trans sX)
            refine hB1.app (x := ()) (Sub.refl _) rfl (by simp [og2.isCell, oa.isCell, ob.isCell]; exact ⟨rfl, rfl, rfl, rfl⟩) (fun _ _ => trivial) hnz (by decide) (by omega) (fun v' g' n' hB2 => ?_)
            rw [kBin_add, wrap64_of (by omega) (by omega), show ((i : Nat) : Int) + 1 = ((i + 1 : Nat) : Int) by omega]
            refine ih (mm - 1) _ _ _ (by omega) ⟨i + 1, hideV gX w, v', us ++ [()], va, ra, by omega, t2, t3, t4, t8, t11, rfl, rfl, rfl, hgB.trans hS1, ?_, hB2, by simp [hus], by omega, hres⟩
            obtain ⟨a, cc, eva, p1, p2, p3⟩ := oa.sl
            refine ⟨a, cc, eva, p1, p2, fun h0 => ?_⟩
            obtain ⟨l, o, bs, bk, rfl, hg, p4⟩ := p3 h0
            exact ⟨l, o, bs, bk, rfl, hD1 l _ hg (s14.none (fa l (by rw [eva]; simp [blks, blkOf]))), p4⟩
      · refine kSplit_t (by rw [decide_eq_false hbeg]; rfl) (fillX _ (bad ?_ _))
        rw [hstep, if_neg]; rintro ⟨h1, h2, _⟩; exact hbeg ⟨h1, h2⟩
  · have hje : bs0.drop i = [] := List.drop_eq_nil_of_le (by omega)
    rw [hje] at hres
    have e1 : chk h xs txs [] i cm = ((i : Int), (0 : Int)) := rfl
    rw [e1] at hres
    have ei : i = bs0.length := by omega
    have j6 : ∀ t' : Env, t' 8 = ptr l8 0 → t' 11 = v66 → t' 13 = w → bellowsref28_Check_j6 AC K t' g9 n9 := by
      intro t' q8 q11 q13
      simp only [bellowsref28_Check_j6, q8, q11, q13, kPtr_p, kAgg_a]
      refine hB9.len (fillX2 (BB.isCell hBB) _ ?_)
      rw [← hres, ei] at hK
      exact exit_spec (s0.trans sB) h0 h8 (BB.isCell hBB) hK
    exact j6 _ t8 t11 t13
end Go.Proofs.Ytldlimkjhppjbaa.Gen

namespace Go.Proofs.Ytldlimkjhppjbaa.Gen
open Go Go.Proofs.Ytldlimkjhppjbaa.Abs Go.RowKit
variable {g : G} {n : Nat}
set_option maxRecDepth 100000 in
set_option maxHeartbeats 2000000 in
theorem rCheck_spec {h : Hp} {xs : List Ev} {txs : List (List TxT)} {vm vt vx : Value} {m : List Int} (hm : Sl encW 1 g vm m) (hml : m.length ≤ 1000) (hT : SlR TsC 1 g vt txs) (hF : Fair27 txs) (hv : Sl encE 5 g vx xs) (hcap : Cap vx 5) (hlen : xs.length < 1000000) {K : Cont}
    (hK : ∀ vl g' n', Abs.isCell vl = true → Sub g g' → K (.agg ([vl, .int .i64 (checkR h m txs xs).1, .int .i64 (checkR h m txs xs).2] : List Value).toArray) g' n') : AC bellowsref28_Check_id [.agg (encH h).toArray, vm, vt, vx] g n K := by
  refine ACalls.fold X0_mono ?_
  rw [← bellowsref28_Check_eq]
  simp only [bellowsref28_Check, kAgg_a]
  intro hn
  have s1 := (Sub.refl g).new hn (some (.cells (encH h) .exact))
  have hb1 : upd g n (some (.cells (encH h) .exact)) n = some (.cells (encH h) .exact) := upd_same _ _ _
  generalize upd g n (some (.cells (encH h) .exact)) = g1 at s1 hb1
  intro hn1
  have h0 : g (n + 1) = none := s1.none hn1
  have s2 := (Sub.refl g1).new hn1 (some (.cells zC .exact))
  have h82 : upd g1 (n + 1) (some (.cells zC .exact)) (n + 1) = some (.cells zC .exact) := upd_same _ _ _
  generalize upd g1 (n + 1) (some (.cells zC .exact)) = g2 at s2 h82
  have hb2 := s2.live hb1
  have s02 := s1.trans s2
  refine ldH hb2 (rGoodH_spec fun g3 n3 s3 => ?_)
  have s03 := s02.trans s3
  rw [kUn_not]
  by_cases hG : GoodH h
  · refine kSplit_f (by simp [hG]) ((hm.mono s03).len (ldH (s3.live hb2) (rWds_spec fun g5 n5 s5 => ?_)))
    have s35 := s3.trans s5
    have s05 := s02.trans s35
    rw [kBin_neq]
    refine kSplit_d (fun hc => fillX1 _ ?_) (fun hc => ?_)
    · refine exit_spec s05 h0 (s35.live h82) rfl ?_
      unfold checkR at hK; rw [if_neg (fun ⟨_, h2, _⟩ => hc h2)] at hK; exact hK
    have hT5 := hT.mono (fun c x h => TsC.mono s05 c x h) s05
    refine hT5.len (kLd_of (s35.live hb2) rfl ?_)
    rw [kBin_neq]
    refine kSplit_d (fun hc2 => fillX1 _ ?_) (fun hc2 => ?_)
    · refine exit_spec s05 h0 (s35.live h82) rfl ?_
      unfold checkR at hK; rw [if_neg (fun ⟨_, _, h3⟩ => hc2 h3)] at hK; exact hK
    have hcond : GoodH h ∧ (m.length : Int) = wordsH h ∧ (txs.length : Int) = h.cores := ⟨hG, Classical.byContradiction hc, Classical.byContradiction hc2⟩
    have hm0 : 0 < m.length := by
      have h2 := hcond.2.1
      unfold wordsH at h2; rw [if_pos hG] at h2
      obtain ⟨_, _, _, h3, _⟩ := hG
      omega
    have h10 := hF.1
    refine lfp_ind (m := txs.length) (Inv := fun mm e g6 n6 => ∃ j : Nat, mm + j = txs.length ∧ e 1 = vm ∧ e 2 = vt ∧ e 3 = vx ∧ e 4 = ptr n 0 ∧ e 8 = ptr (n + 1) 0 ∧ e 9 = .int .i64 (j : Nat) ∧ Sub g5 g6 ∧ ∀ ts ∈ txs.take j, ∀ t ∈ ts, GoodT t.ops) ?_ ⟨0, by omega, rfl, rfl, rfl, rfl, rfl, rfl, Sub.refl _, by simp⟩
    rintro I mm e g6 n6 ih ⟨j, hmm, e1, e2, e3, e4, e8, e9, s6, hall⟩
    have s06 := s05.trans s6
    have hT6 := hT.mono (fun c x h => TsC.mono s06 c x h) s06
    simp only [bellowsref28_Check_l1, e2, e9]
    refine hT6.len ?_
    rw [kBin_lss]
    refine kSplit_d (fun hj => ?_) (fun hj => ?_)
    · have hj : j < txs.length := by omega
      have hget : txs[j]? = some txs[j] := List.getElem?_eq_getElem hj
      generalize txs[j] = ts at hget
      have hts := hF.2 ts (List.mem_of_getElem? hget)
      have h12 := hts.1
      refine lfp_ind (m := ts.length) (Inv := fun m2 e g7 n7 => ∃ k : Nat, m2 + k = ts.length ∧ e 1 = vm ∧ e 2 = vt ∧ e 3 = vx ∧ e 4 = ptr n 0 ∧ e 8 = ptr (n + 1) 0 ∧ e 9 = .int .i64 (j : Nat) ∧ e 10 = .int .i64 (k : Nat) ∧ Sub g6 g7 ∧ ∀ t ∈ ts.take k, GoodT t.ops) ?_ ⟨0, by omega, e1, e2, e3, e4, e8, e9, rfl, Sub.refl _, by simp⟩
      rintro I2 m2 e g7 n7 ih2 ⟨k, hm2, e1, e2, e3, e4, e8, e9, e10, s7, hall2⟩
      simp only [bellowsref28_Check_l2, e2, e8, e9, e10, kPtr_p, kAgg_a]
      refine hT6.idx hget (fun l o c ha hc hx => ?_)
      obtain ⟨vr, rfl, hr⟩ := hx
      rw [kPtr_p]
      refine (ha.mono s7).ld (i := 0) rfl (hr.len ?_)
      rw [kBin_lss]
      refine kSplit_d (fun hk => ?_) (fun hk => ?_)
      · have hk : k < ts.length := by omega
        have hgk : ts[k]? = some ts[k] := List.getElem?_eq_getElem hk
        generalize ts[k] = tx at hgk
        have hop := hts.2 tx (List.mem_of_getElem? hgk)
        refine hT6.idx hget (fun l o c ha hc hx => ?_)
        obtain ⟨vr, rfl, hr⟩ := hx
        rw [kPtr_p]
        refine (ha.mono s7).ld (i := 0) rfl (hr.idx hgk (fun l o c ha hc hx => ?_))
        obtain ⟨vo, rfl, ho⟩ := hx
        rw [kPtr_p]
        refine (ha.mono s7).ldN rfl (rGood_spec (ho.mono s7) (by omega) fun g8 n8 s8 => ?_)
        have s68 := s7.trans s8
        rw [kUn_not]
        by_cases hO : GoodT tx.ops
        · refine kSplit_f (by simp [hO]) ?_
          rw [kBin_add, wrap64_of (by omega) (by omega), show ((k : Nat) : Int) + 1 = ((k + 1 : Nat) : Int) by omega]
          refine ih2 (m2 - 1) _ _ _ (by omega) ⟨k + 1, by omega, e1, e2, e3, e4, e8, e9, rfl, s68, fun x hx => ?_⟩
          rw [take_add hgk] at hx
          rcases List.mem_append.1 hx with hx | hx
          · exact hall2 x hx
          · simp at hx; subst hx; exact hO
        · refine kSplit_t (by simp [hO]) (fillX1 _ ?_)
          refine exit_spec (s06.trans s68) h0 ((s35.trans (s6.trans s68)).live h82) rfl ?_
          have hno : ¬ AllGood txs := fun h => hO (h ts (List.mem_of_getElem? hget) tx (List.mem_of_getElem? hgk))
          unfold checkR at hK; rw [if_pos hcond, if_neg hno] at hK; exact hK
      · rw [List.take_of_length_le (by omega)] at hall2
        have j3 : ∀ t : Env, t 1 = vm → t 2 = vt → t 3 = vx → t 4 = ptr n 0 → t 8 = ptr (n + 1) 0 → t 9 = .int .i64 (j : Nat) → bellowsref28_Check_j3 AC K I t g7 n7 := by
          intro t q1 q2 q3 q4 q8 q9
          simp only [bellowsref28_Check_j3, q9]
          rw [kBin_add, wrap64_of (by omega) (by omega), show ((j : Nat) : Int) + 1 = ((j + 1 : Nat) : Int) by omega]
          refine ih (mm - 1) _ _ _ (by omega) ⟨j + 1, by omega, q1, q2, q3, q4, q8, rfl, s6.trans s7, fun y hy => ?_⟩
          rw [take_add hget] at hy
          rcases List.mem_append.1 hy with hy | hy
          · exact hall y hy
          · simp at hy; subst hy; exact hall2
        exact j3 _ e1 e2 e3 e4 e8 e9
    · rw [List.take_of_length_le (by omega)] at hall
      have hb6 := (s35.trans s6).live hb2
      have j4 : ∀ t : Env, t 1 = vm → t 2 = vt → t 3 = vx → t 4 = ptr n 0 → t 8 = ptr (n + 1) 0 → bellowsref28_Check_j4 AC K t g6 n6 := by
        intro t q1 q2 q3 q4 q8
        simp only [bellowsref28_Check_j4, q1, q3, q4, kPtr_p]
        refine ldH hb6 (rBegins_spec (hv.mono s06) hcap hlen fun v66 g7 n7 s7 o66 f66 => ?_)
        have s07 := s06.trans s7
        refine rloop_spec (h := h) (xs := xs) (txs := txs) (m := m) (res := checkR h m txs xs) (bs0 := begH h xs) (l8 := n + 1) (l4 := n) s07 h0 ((s35.trans (s6.trans s7)).live h82) (s7.live hb6) (hT.mono (fun c x h => TsC.mono s07 c x h) s07) o66.sl (hv.mono s07) hcap hall begH_told hlen (by have := begH_len h xs; omega) (by omega) hm0 hml hK (begH h xs).length _ g7 n7
          ⟨0, g7, .slice none 0 0, [], vm, m, by omega, q2, q3, q4, q8, rfl, rfl, rfl, rfl, Sub.refl _, hm.mono s07, BB.nil g7, rfl, rfl, ?_⟩
        rw [List.drop_zero]
        unfold checkR; rw [if_pos hcond, if_pos (show AllGood txs from hall)]
      exact j4 _ e1 e2 e3 e4 e8
  · refine kSplit_t (by simp [hG]) (fillX1 _ ?_)
    refine exit_spec s03 h0 (s3.live h82) rfl ?_
    unfold checkR at hK; rw [if_neg (fun ⟨h1, _⟩ => hG h1)] at hK; exact hK
end Go.Proofs.Ytldlimkjhppjbaa.Gen

namespace Go.Proofs.Ytldlimkjhppjbaa.Gen
open Go Go.Proofs.Ytldlimkjhppjbaa.Abs Go.RowKit
variable {g : G} {n : Nat}
theorem appE {α : Type} {enc : α → List Value} {z l bytes : Nat} {x : Value} {ys : List α} {K : Cont} (hx : Sl enc z g x ys) (hc : ∀ y, ∀ v ∈ enc y, Abs.isCell v = true) (hb : bytes ≤ 1024) (hl : ys.length ≤ 1000000)
    (hK : ∀ v' g' n', Sub g g' → Sl enc z g' v' ys → K v' g' n') : kAppend (.slice (some ⟨l, 0, none⟩) 0 0) x z bytes g n K := by
  have hm : (0 + ys.length) * bytes ≤ 1000000 * 1024 := Nat.mul_le_mul (by omega) hb
  refine OwnS.append (g0 := g) (xs := ([] : List α)) OwnS.empty (Sub.refl _) hx hc (by omega) (by simpa using Nat.le_trans hm (by decide)) (by simp; omega) (fun v' g' n' h3 h4 h5 h6 => ?_)
  rw [List.nil_append] at h4
  exact hK v' g' n' h3 h4.sl
def wC (h : Hp) (vm vt : Value) : List Value := encH h ++ [vm, vt]
theorem ldW {l : Nat} {h : Hp} {vm vt : Value} {bk : BK} {K : List Value → Prop} (hb : g l = some (.cells (wC h vm vt) bk)) (k : K (encH h)) : kLdN g l (0 + 0) 9 K :=
  kLdN_of hb (by simp [wC, encH, encC]) k
set_option maxRecDepth 100000 in
set_option maxHeartbeats 2000000 in
theorem SerialChecks_spec {h : Hp} {xs : List Ev} {txs : List (List TxT)} {vm vt a1 : Value} {m : List Int} (hm : Sl encW 1 g vm m) (hT : SlR TsC 1 g vt txs) (hv : Sl encE 5 g a1 xs) (hcap : Cap a1 5) (hl1 : txs.length < 4611686018427387904) (hl2 : ∀ ts ∈ txs, ts.length < 4611686018427387904) {K : Cont} (hK : ∀ g' n', K (.bool true) g' n') :
    AC bellowslaw28_SerialChecks_id [.agg (wC h vm vt).toArray, a1] g n K := by
  refine ACalls.fold X0_mono ?_
  rw [← bellowslaw28_SerialChecks_eq]
  simp only [bellowslaw28_SerialChecks, kAgg_a]
  intro hn
  have s1 := (Sub.refl g).new hn (some (.cells (wC h vm vt) .exact))
  have hb1 : upd g n (some (.cells (wC h vm vt) .exact)) n = some (.cells (wC h vm vt) .exact) := upd_same _ _ _
  generalize upd g n (some (.cells (wC h vm vt) .exact)) = g1 at s1 hb1
  have hm1 := hm.mono s1
  have hT1 := hT.mono (fun c x h => TsC.mono s1 c x h) s1
  have hv1 := hv.mono s1
  refine kLd_of hb1 rfl (Fair27_spec hT1 hl1 hl2 fun n2 => ?_)
  rw [kUn_not]
  by_cases hF : Fair27 txs
  · refine kSplit_f (by simp [hF]) (kLd_of hb1 rfl (hm1.len ?_))
    rw [kBin_gtr]
    refine kSplit_d (fun _ => wakes28 fun n' => aRet_of (Sub.refl _) (hK _ _)) (fun hml => hv1.len ?_)
    rw [kBin_gtr]
    refine kSplit_d (fun _ => wakes28 fun n' => aRet_of (Sub.refl _) (hK _ _)) (fun hxl => ?_)
    refine ldW hb1 (kLd_of hb1 rfl (kLd_of hb1 rfl ?_))
    simp only [kPtr_p, kFill_nil]
    have q : ∀ {ga gb : G}, Sub g1 ga → Sub ga gb → gb n = ga n := fun sa sb => (sb.live (sa.live hb1)).trans (sa.live hb1).symm
    have mT : ∀ {gb : G}, Sub g1 gb → SlR TsC 1 gb vt txs := fun s => hT1.mono (fun c x h => TsC.mono s c x h) s
    refine ⟨fun hn2 => ?_, fun hn2 => ?_⟩
    · have sa := (Sub.refl g1).new hn2 (some (.cells (reps 0 [.int .u64 0]) .exact))
      generalize upd g1 n2 (some (.cells (reps 0 [.int .u64 0]) .exact)) = ga at sa
      refine ⟨q (Sub.refl _) sa, q (Sub.refl _) sa, q (Sub.refl _) sa, appE (hm1.mono sa) encW_cell (by decide) (by omega) (fun v30 gb nb sb h30 => ⟨q sa sb, q sa sb, ?_⟩), fun hn3 => ?_⟩
      · have sab := sa.trans sb
        refine ⟨Copied27_spec (mT sab) hF (fun v33 gc nc sc h33 => ⟨q sab sc, fun hn4 => ?_⟩), fun hn4 => ?_⟩
        · have sac := sab.trans sc
          have sd := (Sub.refl gc).new hn4 (some (.cells (reps 0 [(.int .i64 0), (.int .i64 0), (.int .i64 0), (.int .i64 0), (.int .u64 0)]) .exact))
          generalize upd gc nc (some (.cells (reps 0 [(.int .i64 0), (.int .i64 0), (.int .i64 0), (.int .i64 0), (.int .u64 0)]) .exact)) = gd at sd
          have sad := sac.trans sd
          refine ⟨q sac sd, q sac sd, q sac sd, appE (hv1.mono sad) encE_cell (by decide) (by omega) (fun v36 gX nX sX h36 => ⟨q sad sX, ?_⟩)⟩
          have h30 := h30.mono (sc.trans (sd.trans sX))
          have h33 := h33.mono (fun c x h => TsC.mono (sd.trans sX) c x h) (sd.trans sX)
          have hbX := (sad.trans sX).live hb1
          have sX := s1.trans (sad.trans sX)
          refine Check_spec h30 (by omega) h33 hF h36 (by omega) (fun g11 n11 s11 => ?_)
          have sX1 := sX.trans s11
          have hb11 := s11.live hbX
          refine kEx (vs := [.int .i64 (checkR h m txs xs).1, .int .i64 (checkR h m txs xs).2]) rfl (kEx (vs := [.int .i64 (checkR h m txs xs).1, .int .i64 (checkR h m txs xs).2]) rfl ?_)
          refine ldW hb11 (kLd_of hb11 rfl (kLd_of hb11 rfl ?_))
          refine rCheck_spec (hm.mono sX1) (by omega) (hT.mono (fun c x h => TsC.mono sX1 c x h) sX1) hF (hv.mono sX1) hcap (by omega) (fun vl g12 n12 hcl s12 hn12 => ?_)
          show kAgg _ _
          rw [kAgg_a]
          refine ⟨rfl, kStN_of (upd_same _ _ _) rfl (by simp) (by simp; exact ⟨hcl, rfl, rfl⟩) ?_⟩
          refine kLd_of (upd_same _ _ _) rfl ?_
          rw [kBin_eql]
          refine kSplit_t (by simp) (kLd_of (upd_same _ _ _) rfl ?_)
          rw [kBin_eql]
          exact kSplit_t (by simp) (wakes28 fun n' => aRet_of (Sub.refl _) (hK _ _))
        · have sd := (Sub.refl gb).new hn4 (some (.cells (reps 0 [(.int .i64 0), (.int .i64 0), (.int .i64 0), (.int .i64 0), (.int .u64 0)]) .exact))
          generalize upd gb nb (some (.cells (reps 0 [(.int .i64 0), (.int .i64 0), (.int .i64 0), (.int .i64 0), (.int .u64 0)]) .exact)) = gd at sd
          have sad := sab.trans sd
          refine ⟨q sab sd, q sab sd, q sab sd, Copied27_spec (mT sad) hF (fun v33 gc nc sc h33 => ⟨q sad sc, ?_⟩)⟩
          have sac := sad.trans sc
          refine appE (hv1.mono sac) encE_cell (by decide) (by omega) (fun v36 gX nX sX h36 => ⟨q sac sX, ?_⟩)
          have h30 := h30.mono (sd.trans (sc.trans sX))
          have h33 := h33.mono (fun c x h => TsC.mono sX c x h) sX
          have hbX := (sac.trans sX).live hb1
          have sX := s1.trans (sac.trans sX)
          refine Check_spec h30 (by omega) h33 hF h36 (by omega) (fun g11 n11 s11 => ?_)
          have sX1 := sX.trans s11
          have hb11 := s11.live hbX
          refine kEx (vs := [.int .i64 (checkR h m txs xs).1, .int .i64 (checkR h m txs xs).2]) rfl (kEx (vs := [.int .i64 (checkR h m txs xs).1, .int .i64 (checkR h m txs xs).2]) rfl ?_)
          refine ldW hb11 (kLd_of hb11 rfl (kLd_of hb11 rfl ?_))
          refine rCheck_spec (hm.mono sX1) (by omega) (hT.mono (fun c x h => TsC.mono sX1 c x h) sX1) hF (hv.mono sX1) hcap (by omega) (fun vl g12 n12 hcl s12 hn12 => ?_)
          show kAgg _ _
          rw [kAgg_a]
          refine ⟨rfl, kStN_of (upd_same _ _ _) rfl (by simp) (by simp; exact ⟨hcl, rfl, rfl⟩) ?_⟩
          refine kLd_of (upd_same _ _ _) rfl ?_
          rw [kBin_eql]
          refine kSplit_t (by simp) (kLd_of (upd_same _ _ _) rfl ?_)
          rw [kBin_eql]
          exact kSplit_t (by simp) (wakes28 fun n' => aRet_of (Sub.refl _) (hK _ _))
      · have sd := (Sub.refl ga).new hn3 (some (.cells (reps 0 [(.int .i64 0), (.int .i64 0), (.int .i64 0), (.int .i64 0), (.int .u64 0)]) .exact))
        generalize upd ga (n2 + 1) (some (.cells (reps 0 [(.int .i64 0), (.int .i64 0), (.int .i64 0), (.int .i64 0), (.int .u64 0)]) .exact)) = gd at sd
        have sad := sa.trans sd
        refine ⟨q sa sd, q sa sd, q sa sd, appE (hm1.mono sad) encW_cell (by decide) (by omega) (fun v30 gb nb sb h30 => ⟨q sad sb, q sad sb, ?_⟩)⟩
        have sab := sad.trans sb
        refine Copied27_spec (mT sab) hF (fun v33 gc nc sc h33 => ⟨q sab sc, ?_⟩)
        have sac := sab.trans sc
        refine appE (hv1.mono sac) encE_cell (by decide) (by omega) (fun v36 gX nX sX h36 => ⟨q sac sX, ?_⟩)
        have h30 := h30.mono (sc.trans sX)
        have h33 := h33.mono (fun c x h => TsC.mono sX c x h) sX
        have hbX := (sac.trans sX).live hb1
        have sX := s1.trans (sac.trans sX)
        refine Check_spec h30 (by omega) h33 hF h36 (by omega) (fun g11 n11 s11 => ?_)
        have sX1 := sX.trans s11
        have hb11 := s11.live hbX
        refine kEx (vs := [.int .i64 (checkR h m txs xs).1, .int .i64 (checkR h m txs xs).2]) rfl (kEx (vs := [.int .i64 (checkR h m txs xs).1, .int .i64 (checkR h m txs xs).2]) rfl ?_)
        refine ldW hb11 (kLd_of hb11 rfl (kLd_of hb11 rfl ?_))
        refine rCheck_spec (hm.mono sX1) (by omega) (hT.mono (fun c x h => TsC.mono sX1 c x h) sX1) hF (hv.mono sX1) hcap (by omega) (fun vl g12 n12 hcl s12 hn12 => ?_)
        show kAgg _ _
        rw [kAgg_a]
        refine ⟨rfl, kStN_of (upd_same _ _ _) rfl (by simp) (by simp; exact ⟨hcl, rfl, rfl⟩) ?_⟩
        refine kLd_of (upd_same _ _ _) rfl ?_
        rw [kBin_eql]
        refine kSplit_t (by simp) (kLd_of (upd_same _ _ _) rfl ?_)
        rw [kBin_eql]
        exact kSplit_t (by simp) (wakes28 fun n' => aRet_of (Sub.refl _) (hK _ _))
    · have sa := (Sub.refl g1).new hn2 (some (.cells (reps 0 [(.int .i64 0), (.int .i64 0), (.int .i64 0), (.int .i64 0), (.int .u64 0)]) .exact))
      generalize upd g1 n2 (some (.cells (reps 0 [(.int .i64 0), (.int .i64 0), (.int .i64 0), (.int .i64 0), (.int .u64 0)]) .exact)) = ga at sa
      refine ⟨q (Sub.refl _) sa, q (Sub.refl _) sa, q (Sub.refl _) sa, fun hn3 => ?_⟩
      have sd := (Sub.refl ga).new hn3 (some (.cells (reps 0 [.int .u64 0]) .exact))
      generalize upd ga (n2 + 1) (some (.cells (reps 0 [.int .u64 0]) .exact)) = gd at sd
      have sad := sa.trans sd
      refine ⟨q sa sd, q sa sd, q sa sd, appE (hm1.mono sad) encW_cell (by decide) (by omega) (fun v30 gb nb sb h30 => ⟨q sad sb, q sad sb, ?_⟩)⟩
      have sab := sad.trans sb
      refine Copied27_spec (mT sab) hF (fun v33 gc nc sc h33 => ⟨q sab sc, ?_⟩)
      have sac := sab.trans sc
      refine appE (hv1.mono sac) encE_cell (by decide) (by omega) (fun v36 gX nX sX h36 => ⟨q sac sX, ?_⟩)
      have h30 := h30.mono (sc.trans sX)
      have h33 := h33.mono (fun c x h => TsC.mono sX c x h) sX
      have hbX := (sac.trans sX).live hb1
      have sX := s1.trans (sac.trans sX)
      refine Check_spec h30 (by omega) h33 hF h36 (by omega) (fun g11 n11 s11 => ?_)
      have sX1 := sX.trans s11
      have hb11 := s11.live hbX
      refine kEx (vs := [.int .i64 (checkR h m txs xs).1, .int .i64 (checkR h m txs xs).2]) rfl (kEx (vs := [.int .i64 (checkR h m txs xs).1, .int .i64 (checkR h m txs xs).2]) rfl ?_)
      refine ldW hb11 (kLd_of hb11 rfl (kLd_of hb11 rfl ?_))
      refine rCheck_spec (hm.mono sX1) (by omega) (hT.mono (fun c x h => TsC.mono sX1 c x h) sX1) hF (hv.mono sX1) hcap (by omega) (fun vl g12 n12 hcl s12 hn12 => ?_)
      show kAgg _ _
      rw [kAgg_a]
      refine ⟨rfl, kStN_of (upd_same _ _ _) rfl (by simp) (by simp; exact ⟨hcl, rfl, rfl⟩) ?_⟩
      refine kLd_of (upd_same _ _ _) rfl ?_
      rw [kBin_eql]
      refine kSplit_t (by simp) (kLd_of (upd_same _ _ _) rfl ?_)
      rw [kBin_eql]
      exact kSplit_t (by simp) (wakes28 fun n' => aRet_of (Sub.refl _) (hK _ _))
  · exact kSplit_t (by simp [hF]) (wakes28 fun n' => aRet_of (Sub.refl _) (hK _ _))
end Go.Proofs.Ytldlimkjhppjbaa.Gen

namespace Go.Proofs.Ytldlimkjhppjbaa.Gen
open Go Go.Proofs.Ytldlimkjhppjbaa.Abs Go.RowKit
variable {g : G} {n : Nat}
theorem decEv (c : List Value) (h : RepL g [.i .i64, .i .i64, .i .i64, .i .i64, .i .u64] c) : ∃ x, c = encE x := by
  obtain ⟨a1, r1, e1, _, h⟩ := rep_i h
  obtain ⟨a2, r2, e2, _, h⟩ := rep_i h
  obtain ⟨a3, r3, e3, _, h⟩ := rep_i h
  obtain ⟨a4, r4, e4, _, h⟩ := rep_i h
  obtain ⟨a5, r5, e5, _, h⟩ := rep_i h
  have e := rep_nil h
  subst e e5 e4 e3 e2 e1
  exact ⟨⟨a1, a2, a3, a4, a5⟩, rfl⟩
theorem cap_of {v : Value} {z m : Nat} {cs : List Value} (hr : Rd g v z m cs) (h : ∀ a m c, v = .slice a m c → c < LC ∧ m ≤ c) : Cap v z := by
  obtain ⟨a, c, rfl, _⟩ := hr
  exact .inl (h _ _ _ rfl)
theorem decO (c : List Value) (h : RepL g [.i .i64, .i .i64, .i .u64] c) : ∃ x, c = encO x := by
  obtain ⟨a1, r1, e1, _, h⟩ := rep_i h
  obtain ⟨a2, r2, e2, _, h⟩ := rep_i h
  obtain ⟨a3, r3, e3, _, h⟩ := rep_i h
  have e := rep_nil h
  subst e e3 e2 e1
  exact ⟨⟨a1, a2, a3⟩, rfl⟩
theorem decW (c : List Value) (h : RepL g [.i .u64] c) : ∃ x, c = encW x := by
  obtain ⟨a1, r1, e1, _, h⟩ := rep_i h
  have e := rep_nil h
  subst e e1
  exact ⟨a1, rfl⟩
theorem decTx (c : List Value) (h : RepL g [.s [.i .i64, .i .i64, .i .u64], .b] c) : ∃ t, TxC g c t := by
  obtain ⟨v, r, e1, h1, h⟩ := rep_s h
  obtain ⟨b, r2, e2, h⟩ := rep_b h
  have e := rep_nil h
  subst e e2 e1
  obtain ⟨xs, h2, _⟩ := rep_sl decO h1
  exact ⟨⟨xs, b⟩, v, rfl, h2⟩
def TsB (g : G) (c : List Value) (ts : List TxT) : Prop := TsC g c ts ∧ ts.length < 4611686018427387904
theorem SlR.bound {α : Type} {R : G → List Value → α → Prop} {z : Nat} {v : Value} {xs : List α} (h : SlR R z g v xs) (hc : ∀ a m c, v = .slice a m c → c < LC ∧ m ≤ c) : xs.length < 4611686018427387904 := by
  obtain ⟨els, ⟨a, c, e, _⟩, _⟩ := h
  obtain ⟨h1, h2⟩ := hc _ _ _ e
  unfold LC at h1; omega
theorem decTs (c : List Value) (h : RepL g [.s [.s [.i .i64, .i .i64, .i .u64], .b]] c) : ∃ ts, TsB g c ts := by
  obtain ⟨v, r, e1, h1, h⟩ := rep_s h
  have e := rep_nil h
  subst e e1
  obtain ⟨ts, h2, hc⟩ := rep_slR (R := TxC) decTx h1
  exact ⟨ts, ⟨v, rfl, h2⟩, SlR.bound h2 hc⟩
theorem SerialChecks_row {args : List Value} (hr : RepAs g [(true, [.i .i64, .i .i64, .i .i64, .i .i64, .i .i64, .i .i64, .i .i64, .i .i64, .i .i64, .s [.i .u64], .s [.s [.s [.i .i64, .i .i64, .i .u64], .b]]]), (false, [.s [.i .i64, .i .i64, .i .i64, .i .i64, .i .u64]])] args) {K : Cont} (hK : ∀ g' n', K (.bool true) g' n') : AC 5 args g n K := by
  cases hr with
  | cons h1 hr =>
    cases hr with
    | cons h2 hr =>
      cases hr
      obtain ⟨cs, e, h1⟩ := h1
      obtain ⟨a1, r1, e1, _, h⟩ := rep_i h1
      obtain ⟨a2, r2, e2, _, h⟩ := rep_i h
      obtain ⟨a3, r3, e3, _, h⟩ := rep_i h
      obtain ⟨a4, r4, e4, _, h⟩ := rep_i h
      obtain ⟨a5, r5, e5, _, h⟩ := rep_i h
      obtain ⟨a6, r6, e6, _, h⟩ := rep_i h
      obtain ⟨a7, r7, e7, _, h⟩ := rep_i h
      obtain ⟨a8, r8, e8, _, h⟩ := rep_i h
      obtain ⟨a9, r9, e9, _, h⟩ := rep_i h
      obtain ⟨vm, r10, e10, hm, h⟩ := rep_s h
      obtain ⟨vt, r11, e11, ht, h⟩ := rep_s h
      have e0 := rep_nil h
      subst e0 e11 e10 e9 e8 e7 e6 e5 e4 e3 e2 e1
      subst e
      obtain ⟨v, r, e, h2, hn⟩ := rep_s h2
      cases e
      obtain ⟨xs, h2, hc⟩ := rep_sl decEv h2
      obtain ⟨m, hm, _⟩ := rep_sl decW hm
      obtain ⟨txs, ht, htc⟩ := rep_slR (R := TsB) decTs ht
      have hb := SlR.bound ht htc
      obtain ⟨els, q1, q2, q3⟩ := ht
      refine SerialChecks_spec (h := ⟨a1, a2, a3, a4, a5, a6, a7, a8, a9⟩) hm ⟨els, q1, q2, fun i c x hc hx => ⟨(q3 i c x hc hx).1, (q3 i c x hc hx).2.1⟩⟩ h2 (cap_of h2 hc) hb (fun ts hts => ?_) hK
      obtain ⟨i, hi, rfl⟩ := List.mem_iff_getElem.1 hts
      exact (q3 i _ _ (List.getElem?_eq_getElem (by omega)) (List.getElem?_eq_getElem hi)).2.2
end Go.Proofs.Ytldlimkjhppjbaa.Gen

namespace Go.Proofs.Ytldlimkjhppjbaa.Gen
open Go Go.Proofs.Ytldlimkjhppjbaa.Abs Go.RowKit
/-! ## a beginning of events -/
theorem takeWhile_take {α : Type} (p : α → Bool) : ∀ (l : List α) (k : Nat), (l.take k).takeWhile p = (l.takeWhile p).take k
  | [], k => by simp
  | a :: l, 0 => by simp
  | a :: l, k + 1 => by
    rw [List.take_succ_cons, List.takeWhile_cons, List.takeWhile_cons]
    split
    · rw [List.take_succ_cons, takeWhile_take p l k]
    · simp
theorem beg_pre : ∀ (l : List Ev) (out : List (Int × Int)), ∃ r, l.foldl begStep out = out ++ r
  | [], out => ⟨[], by simp⟩
  | e :: l, out => by
    rw [List.foldl_cons]
    obtain ⟨r, hr⟩ := beg_pre l (begStep out e)
    rw [hr]
    unfold begStep
    split
    · exact ⟨_, by rw [List.append_assoc]⟩
    · exact ⟨r, rfl⟩
theorem begH_take (h : Hp) (xs : List Ev) (k : Nat) : ∃ r, begH h xs = begH h (xs.take k) ++ r := by
  unfold begH
  split
  · unfold begF firstE
    rw [takeWhile_take]
    obtain ⟨r, hr⟩ := beg_pre ((xs.takeWhile fun (e : Ev) => !decide (e.kind = 11)).drop k) (((xs.takeWhile fun (e : Ev) => !decide (e.kind = 11)).take k).foldl begStep [])
    refine ⟨r, ?_⟩
    rw [← hr, ← List.foldl_append, List.take_append_drop]
  · exact ⟨[], rfl⟩
def LeT (A B : List (List Int)) : Prop := A.length ≤ B.length ∧ (∀ i, i < A.length → ∃ r, B.getD i [] = A.getD i [] ++ r) ∧ ∀ i, i + 1 < A.length → B.getD i [] = A.getD i []
theorem LeT.refl (A : List (List Int)) : LeT A A := ⟨Nat.le_refl _, fun i _ => ⟨[], by simp⟩, fun _ _ => rfl⟩
theorem LeT.step {A B : List (List Int)} (c : Int) (e : Ev) (h : LeT A B) : LeT A (toldStep c B e) := by
  obtain ⟨h1, h2, h3⟩ := h
  unfold toldStep
  split
  · split
    · refine ⟨by simp; omega, fun i hi => ?_, fun i hi => ?_⟩
      · obtain ⟨r, hr⟩ := h2 i hi
        refine ⟨r, ?_⟩
        rw [← hr]; simp [List.getD_eq_getElem?_getD, List.getElem?_append_left (show i < B.length by omega)]
      · rw [← h3 i hi]; simp [List.getD_eq_getElem?_getD, List.getElem?_append_left (show i < B.length by omega)]
    · split
      · rename_i hk
        have hs : ∀ i, i ≠ B.length - 1 → (B.set (B.length - 1) (B.getD (B.length - 1) [] ++ [e.val])).getD i [] = B.getD i [] := fun i hi => by
          simp [List.getD_eq_getElem?_getD, List.getElem?_set, show ¬ B.length - 1 = i from fun e => hi e.symm]
        refine ⟨by simp; omega, fun i hi => ?_, fun i hi => ?_⟩
        · obtain ⟨r, hr⟩ := h2 i hi
          by_cases hi2 : i = B.length - 1
          · subst hi2
            refine ⟨r ++ [e.val], ?_⟩
            have : (B.set (B.length - 1) (B.getD (B.length - 1) [] ++ [e.val])).getD (B.length - 1) [] = B.getD (B.length - 1) [] ++ [e.val] := by
              simp [List.getD_eq_getElem?_getD, List.getElem?_set, show B.length - 1 < B.length by omega]
            rw [this, hr, List.append_assoc]
          · exact ⟨r, by rw [hs i hi2]; exact hr⟩
        · rw [hs i (by omega)]; exact h3 i hi
      · exact ⟨h1, h2, h3⟩
  · exact ⟨h1, h2, h3⟩
theorem LeT.fold {A : List (List Int)} (c : Int) : ∀ (l : List Ev) (B : List (List Int)), LeT A B → LeT A (l.foldl (toldStep c) B)
  | [], _, h => h
  | e :: l, B, h => by rw [List.foldl_cons]; exact LeT.fold c l _ (h.step c e)
theorem toldH_take (h : Hp) (c : Int) (xs : List Ev) (k : Nat) : LeT (toldH h c (xs.take k)) (toldH h c xs) := by
  unfold toldH
  split
  · unfold toldF firstE
    rw [takeWhile_take]
    have := LeT.fold c ((xs.takeWhile fun (e : Ev) => !decide (e.kind = 11)).drop k) _ (LeT.refl (((xs.takeWhile fun (e : Ev) => !decide (e.kind = 11)).take k).foldl (toldStep c) []))
    rw [← List.foldl_append, List.take_append_drop] at this
    exact this
  · exact LeT.refl _
theorem chk_ok {h : Hp} {xs : List Ev} {txs : List (List TxT)} : ∀ (bs : List (Int × Int)) (i : Nat) (m : List Int), (chk h xs txs bs i m).2 = 0 → (chk h xs txs bs i m).1 = (i + bs.length : Nat)
  | [], i, m, _ => rfl
  | b :: bs, i, m, h0 => by
    unfold chk at h0 ⊢
    split
    · rename_i hc; rw [if_pos hc] at h0; cases h0
    · rename_i hc
      rw [if_neg hc] at h0
      simp only at h0 ⊢
      split
      · rename_i h2
        rw [if_pos h2] at h0
        rw [chk_ok bs (i + 1) _ h0, List.length_cons]
        congr 1; omega
      · rename_i h2; rw [if_neg h2] at h0; cases h0
theorem chk_take {h : Hp} {xs : List Ev} {txs : List (List TxT)} {k : Nat} : ∀ (bs r : List (Int × Int)) (i : Nat) (m : List Int), (∀ b ∈ bs, 0 ≤ b.2 ∧ b.2 < ((toldH h b.1 (xs.take k)).length : Int)) → (chk h xs txs (bs ++ r) i m).2 = 0 → (chk h (xs.take k) txs bs i m).2 = 0
  | [], r, i, m, _, _ => rfl
  | b :: bs, r, i, m, hb, h0 => by
    rw [List.cons_append] at h0
    unfold chk at h0 ⊢
    by_cases hc : b.1 < 0 ∨ (txs.length : Int) ≤ b.1 ∨ ((txs.getD b.1.toNat []).length : Int) ≤ b.2
    · rw [if_pos hc] at h0; cases h0
    · rw [if_neg hc] at h0 ⊢
      simp only at h0 ⊢
      split at h0
      · rename_i h2
        obtain ⟨p1, p2, p3⟩ := h2
        obtain ⟨q1, q2, q3⟩ := toldH_take h b.1 xs k
        obtain ⟨hb0, hb1⟩ := hb b (by simp)
        have hlt : b.2.toNat < (toldH h b.1 (xs.take k)).length := by omega
        obtain ⟨r', hr'⟩ := q2 b.2.toNat hlt
        rw [if_pos]
        · exact chk_take bs r (i + 1) _ (fun b hb' => hb b (List.mem_cons_of_mem _ hb')) h0
        · have hl : ((toldH h b.1 xs).getD b.2.toNat []).length = ((toldH h b.1 (xs.take k)).getD b.2.toNat []).length + r'.length := by rw [hr', List.length_append]
          refine ⟨by omega, ?_, ?_⟩
          · have := congrArg (List.take ((toldH h b.1 (xs.take k)).getD b.2.toNat []).length) p2
            rw [List.take_take, Nat.min_eq_left (by omega)] at this
            rw [this, hr']; simp
          · by_cases hl2 : b.2 = ((toldH h b.1 (xs.take k)).length : Int) - 1
            · exact .inl hl2
            · right
              have := q3 b.2.toNat (by omega)
              rcases p3 with p3 | p3
              · omega
              · rw [this] at p3; exact p3
      · cases h0
end Go.Proofs.Ytldlimkjhppjbaa.Gen

namespace Go.Proofs.Ytldlimkjhppjbaa.Gen
open Go Go.Proofs.Ytldlimkjhppjbaa.Abs Go.RowKit
variable {g : G} {n : Nat}
theorem ModN_spec {a : Int} {b : Nat} (hb : 0 < b) (hb2 : b < 1000000) {K : Cont} (hK : ∀ (k n' : Nat), k < b → K (.int .i64 (k : Nat)) g n') : AC bellowskeep_Mod_id [.int .i64 a, .int .i64 (b : Nat)] g n K := by
  refine ACalls.fold X0_mono ?_
  rw [← bellowskeep_Mod_eq]
  simp only [bellowskeep_Mod, kBin_lss]
  refine kSplit_f (by simp; omega) ?_
  rw [kBin_rem]
  have h1 := Int.tmod_lt_of_pos a (show (0 : Int) < b by omega)
  have h2 : -(b : Int) < a.tmod b := Int.lt_tmod_of_pos a (by omega)
  refine ⟨by omega, ?_⟩
  rw [kBin_add, wrap64_of (by omega) (by omega), kBin_rem]
  have h3 := Int.tmod_lt_of_pos (a.tmod b + b) (show (0 : Int) < b by omega)
  have h4 := Int.tmod_nonneg (b : Int) (show 0 ≤ a.tmod b + b by omega)
  refine ⟨by omega, aRet_of (Sub.refl _) ?_⟩
  have := hK ((a.tmod b + b).tmod b).toNat n (by omega)
  rwa [show (((a.tmod b + b).tmod b).toNat : Int) = (a.tmod b + b).tmod b by omega] at this
theorem checkR_take {h : Hp} {m : List Int} {txs : List (List TxT)} {xs : List Ev} (k : Nat) (h0 : (checkR h m txs xs).2 = 0) : (checkR h m txs (xs.take k)).2 = 0 ∧ (checkR h m txs (xs.take k)).1 ≤ (checkR h m txs xs).1 ∧ (txs.length : Int) = h.cores := by
  unfold checkR at h0 ⊢
  by_cases hc : GoodH h ∧ (m.length : Int) = wordsH h ∧ (txs.length : Int) = h.cores
  · rw [if_pos hc] at h0 ⊢
    by_cases hA : AllGood txs
    · rw [if_pos hA] at h0 ⊢
      rw [if_pos hc, if_pos hA]
      obtain ⟨r, hr⟩ := begH_take h xs k
      have e1 := chk_ok _ _ _ h0
      rw [hr] at h0 e1
      have e2 := chk_take (begH h (xs.take k)) r 0 m begH_told h0
      have e3 := chk_ok _ _ _ e2
      rw [hr]
      refine ⟨e2, ?_, hc.2.2⟩
      rw [e1, e3, List.length_append]; omega
    · rw [if_neg hA] at h0; cases h0
  · rw [if_neg hc] at h0; cases h0
set_option maxHeartbeats 1000000 in
theorem tolds_spec {h : Hp} {xs : List Ev} {vm vt a1 : Value} {l3 k : Nat} {K : Cont} (hb : g l3 = some (.cells (wC h vm vt) .exact)) (hv : Sl encE 5 g a1 xs) (hcap : Cap a1 5) (hlen : xs.length < 1000000) (hk : k ≤ xs.length) (hcore : h.cores < 1000000) (hK : ∀ g' n', K (.bool true) g' n')
    (t : Env) (t1 : t 1 = a1) (t3 : t 3 = ptr l3 0) (t9 : t 9 = .int .i64 (k : Nat)) (t12 : t 12 = .int .i64 0) : lfp (bellowslaw28_SerialBegins_l1 AC K) t g n := by
  refine lfp_ind (m := h.cores.toNat + 1) (Inv := fun mm t g2 n2 => ∃ c : Nat, mm + c = h.cores.toNat + 1 ∧ Sub g g2 ∧ t 1 = a1 ∧ t 3 = ptr l3 0 ∧ t 9 = .int .i64 (k : Nat) ∧ t 12 = .int .i64 (c : Nat)) ?_ ⟨0, by omega, Sub.refl _, t1, t3, t9, t12⟩
  clear t1 t3 t9 t12
  rintro I mm t g2 n2 ih ⟨c, hm, s2, t1, t3, t9, t12⟩
  have hb2 := s2.live hb
  simp only [bellowslaw28_SerialBegins_l1, t1, t3, t9, t12, kPtr_p]
  refine kLd_of hb2 rfl ?_
  rw [kBin_lss]
  refine kSplit_d (fun hc => ?_) (fun hc => wakes28 fun n' => aRet_of (Sub.refl _) (hK _ _))
  refine ldW hb2 (ldW hb2 ?_)
  refine (hv.mono s2).to encE_len hcap hk (fun v98 h98 _ => ?_)
  refine Told_spec (hv.mono s2) hlen (fun v93 cs93 g3 n3 s3 S93 _ => ⟨(s3.live hb2).trans hb2.symm, ?_⟩)
  refine Told_spec (h98.mono s3) (by rw [List.length_take]; omega) (fun v100 cs100 g4 n4 s4 S100 _ => ?_)
  have S93 := S93.mono s4
  obtain ⟨q1, q2, q3⟩ := toldH_take h (c : Int) xs k
  have hTl := (toldH_lens (h := h) (c := (c : Int)) (xs := xs) (k := 0)).1
  have hTi : ∀ i, ((toldH h (c : Int) xs).getD i []).length ≤ xs.length := fun i => (toldH_lens (h := h) (c := (c : Int)) (xs := xs) (k := i)).2
  generalize toldH h (c : Int) xs = A at S93 q1 q2 q3 hTl hTi
  generalize toldH h (c : Int) (xs.take k) = B at S100 q1 q2 q3
  refine S100.ho.sl.len (S93.ho.sl.len ?_)
  rw [S100.len, S93.len, kBin_gtr]
  refine kSplit_f (by simp; omega) ?_
  refine lfp_ind (m := B.length) (Inv := fun m2 t g5 n5 => ∃ i : Nat, m2 + i = B.length ∧ g5 = g4 ∧ t 1 = a1 ∧ t 3 = ptr l3 0 ∧ t 9 = .int .i64 (k : Nat) ∧ t 12 = .int .i64 (c : Nat) ∧ t 13 = v93 ∧ t 14 = v100 ∧ t 15 = .int .i64 (i : Nat)) ?_ ⟨0, by omega, rfl, t1, t3, t9, t12, rfl, rfl, rfl⟩
  rintro I2 m2 t2 g5 n5 ih2 ⟨i, hm2, rfl, t1, t3, t9, t12, t13, t14, t15⟩
  simp only [bellowslaw28_SerialBegins_l2, t13, t14, t15]
  refine S100.ho.sl.len ?_
  rw [S100.len, kBin_lss]
  refine kSplit_d (fun hi => ?_) (fun hi => ?_)
  · have hi : i < B.length := by omega
    obtain ⟨r, hr⟩ := q2 i hi
    refine SSget S93 (by omega) (fun l o c1 _ _ o1 hld => ?_)
    rw [kPtr_p]
    refine hld _ (SSget S100 hi (fun l2 o2 c2 _ _ o2 hld2 => ?_))
    rw [kPtr_p]
    have hAi := hTi i
    refine hld2 _ (BeginsW_spec o1.sl o1.cap o2.sl (by omega) (fun n' => ?_))
    rw [kUn_not]
    refine kSplit_f (by rw [hr]; simp) ?_
    rw [kBin_add, wrap64_of (by omega) (by omega), show ((i : Nat) : Int) + 1 = ((i + 1 : Nat) : Int) by omega]
    exact ih2 (m2 - 1) _ _ _ (by omega) ⟨i + 1, by omega, rfl, t1, t3, t9, t12, t13, t14, rfl⟩
  · have j3 : ∀ t' : Env, t' 1 = a1 → t' 3 = ptr l3 0 → t' 9 = .int .i64 (k : Nat) → t' 12 = .int .i64 (c : Nat) → bellowslaw28_SerialBegins_j3 AC K I t' g5 n5 := by
      intro t' q1 q3 q9 q12
      simp only [bellowslaw28_SerialBegins_j3, q12]
      rw [kBin_add, wrap64_of (by omega) (by omega), show ((c : Nat) : Int) + 1 = ((c + 1 : Nat) : Int) by omega]
      exact ih (mm - 1) _ _ _ (by omega) ⟨c + 1, by omega, (s2.trans s3).trans s4, q1, q3, q9, rfl⟩
    exact j3 _ t1 t3 t9 t12
end Go.Proofs.Ytldlimkjhppjbaa.Gen

namespace Go.Proofs.Ytldlimkjhppjbaa.Gen
open Go Go.Proofs.Ytldlimkjhppjbaa.Abs Go.RowKit
variable {g : G} {n : Nat}
set_option maxRecDepth 100000 in
set_option maxHeartbeats 2000000 in
theorem cut_spec {h : Hp} {xs : List Ev} {txs : List (List TxT)} {vm vt a1 : Value} {m : List Int} {cut : Int} {l3 : Nat} {K : Cont} (hb : g l3 = some (.cells (wC h vm vt) .exact)) (hm : Sl encW 1 g vm m) (hml : m.length ≤ 500) (hT : SlR TsC 1 g vt txs) (hF : Fair27 txs) (hv : Sl encE 5 g a1 xs) (hcap : Cap a1 5) (hxl : xs.length ≤ 400)
    (h0 : (checkR h m txs xs).2 = 0) (hK : ∀ g' n', K (.bool true) g' n')
    (t : Env) (t1 : t 1 = a1) (t2 : t 2 = .int .i64 cut) (t3 : t 3 = ptr l3 0) (t7 : t 7 = .int .i64 (checkR h m txs xs).1) : bellowslaw28_SerialBegins_cut AC K t g n := by
  simp only [bellowslaw28_SerialBegins_cut, t1, t2, t3, t7, kPtr_p, kFill_nil]
  refine hv.len ?_
  rw [kBin_add, wrap64_of (by omega) (by omega), show ((xs.length : Nat) : Int) + 1 = ((xs.length + 1 : Nat) : Int) by omega]
  refine ModN_spec (by omega) (by omega) (fun k n2 hk => ?_)
  obtain ⟨r1, r2, r3⟩ := checkR_take k h0
  have h10 := hF.1
  refine ldW hb (kLd_of hb rfl (kLd_of hb rfl ?_))
  refine hv.to encE_len hcap (by omega) (fun v69 h69 _ => ?_)
  have q : ∀ {ga gb : G}, Sub g ga → Sub ga gb → gb l3 = ga l3 := fun sa sb => (sb.live (sa.live hb)).trans (sa.live hb).symm
  have mT : ∀ {gb : G}, Sub g gb → SlR TsC 1 gb vt txs := fun s => hT.mono (fun c x h => TsC.mono s c x h) s
  have hxt : (xs.take k).length ≤ 400 := by rw [List.length_take]; omega
  refine ⟨fun hn2 => ?_, fun hn2 => ?_⟩
  · have sa := (Sub.refl g).new hn2 (some (.cells (reps 0 [.int .u64 0]) .exact))
    generalize upd g n2 (some (.cells (reps 0 [.int .u64 0]) .exact)) = ga at sa
    refine ⟨q (Sub.refl _) sa, q (Sub.refl _) sa, q (Sub.refl _) sa, appE (hm.mono sa) encW_cell (by decide) (by omega) (fun v30 gb nb sb h30 => ⟨q sa sb, q sa sb, ?_⟩), fun hn3 => ?_⟩
    · have sab := sa.trans sb
      refine ⟨Copied27_spec (mT sab) hF (fun v33 gc nc sc h33 => ⟨q sab sc, fun hn4 => ?_⟩), fun hn4 => ?_⟩
      · have sac := sab.trans sc
        have sd := (Sub.refl gc).new hn4 (some (.cells (reps 0 [(.int .i64 0), (.int .i64 0), (.int .i64 0), (.int .i64 0), (.int .u64 0)]) .exact))
        generalize upd gc nc (some (.cells (reps 0 [(.int .i64 0), (.int .i64 0), (.int .i64 0), (.int .i64 0), (.int .u64 0)]) .exact)) = gd at sd
        have sad := sac.trans sd
        refine ⟨q sac sd, q sac sd, q sac sd, appE (h69.mono sad) encE_cell (by decide) (by omega) (fun v36 gX nX sX h36 => ⟨q sad sX, ?_⟩)⟩
        have h30 := h30.mono (sc.trans (sd.trans sX))
        have h33 := h33.mono (fun c x h => TsC.mono (sd.trans sX) c x h) (sd.trans sX)
        have sX := sad.trans sX
        refine Check_spec h30 (by omega) h33 hF h36 (by omega) (fun g11 n11 s11 => ?_)
        have sX1 := sX.trans s11
        refine kEx (vs := [.int .i64 (checkR h m txs (xs.take k)).1, .int .i64 (checkR h m txs (xs.take k)).2]) rfl (kEx (vs := [.int .i64 (checkR h m txs (xs.take k)).1, .int .i64 (checkR h m txs (xs.take k)).2]) rfl ?_)
        rw [r1, kBin_neq]
        refine kSplit_f (by simp) ?_
        rw [kBin_gtr]
        refine kSplit_f (by simp; omega) ?_
        exact tolds_spec (h := h) (xs := xs) (k := k) (sX1.live hb) (hv.mono sX1) hcap (by omega) (by omega) (by omega) hK _ t1 t3 rfl rfl
      · have sd := (Sub.refl gb).new hn4 (some (.cells (reps 0 [(.int .i64 0), (.int .i64 0), (.int .i64 0), (.int .i64 0), (.int .u64 0)]) .exact))
        generalize upd gb nb (some (.cells (reps 0 [(.int .i64 0), (.int .i64 0), (.int .i64 0), (.int .i64 0), (.int .u64 0)]) .exact)) = gd at sd
        have sad := sab.trans sd
        refine ⟨q sab sd, q sab sd, q sab sd, Copied27_spec (mT sad) hF (fun v33 gc nc sc h33 => ⟨q sad sc, ?_⟩)⟩
        have sac := sad.trans sc
        refine appE (h69.mono sac) encE_cell (by decide) (by omega) (fun v36 gX nX sX h36 => ⟨q sac sX, ?_⟩)
        have h30 := h30.mono (sd.trans (sc.trans sX))
        have h33 := h33.mono (fun c x h => TsC.mono sX c x h) sX
        have sX := sac.trans sX
        refine Check_spec h30 (by omega) h33 hF h36 (by omega) (fun g11 n11 s11 => ?_)
        have sX1 := sX.trans s11
        refine kEx (vs := [.int .i64 (checkR h m txs (xs.take k)).1, .int .i64 (checkR h m txs (xs.take k)).2]) rfl (kEx (vs := [.int .i64 (checkR h m txs (xs.take k)).1, .int .i64 (checkR h m txs (xs.take k)).2]) rfl ?_)
        rw [r1, kBin_neq]
        refine kSplit_f (by simp) ?_
        rw [kBin_gtr]
        refine kSplit_f (by simp; omega) ?_
        exact tolds_spec (h := h) (xs := xs) (k := k) (sX1.live hb) (hv.mono sX1) hcap (by omega) (by omega) (by omega) hK _ t1 t3 rfl rfl
    · have sd := (Sub.refl ga).new hn3 (some (.cells (reps 0 [(.int .i64 0), (.int .i64 0), (.int .i64 0), (.int .i64 0), (.int .u64 0)]) .exact))
      generalize upd ga (n2 + 1) (some (.cells (reps 0 [(.int .i64 0), (.int .i64 0), (.int .i64 0), (.int .i64 0), (.int .u64 0)]) .exact)) = gd at sd
      have sad := sa.trans sd
      refine ⟨q sa sd, q sa sd, q sa sd, appE (hm.mono sad) encW_cell (by decide) (by omega) (fun v30 gb nb sb h30 => ⟨q sad sb, q sad sb, ?_⟩)⟩
      have sab := sad.trans sb
      refine Copied27_spec (mT sab) hF (fun v33 gc nc sc h33 => ⟨q sab sc, ?_⟩)
      have sac := sab.trans sc
      refine appE (h69.mono sac) encE_cell (by decide) (by omega) (fun v36 gX nX sX h36 => ⟨q sac sX, ?_⟩)
      have h30 := h30.mono (sc.trans sX)
      have h33 := h33.mono (fun c x h => TsC.mono sX c x h) sX
      have sX := sac.trans sX
      refine Check_spec h30 (by omega) h33 hF h36 (by omega) (fun g11 n11 s11 => ?_)
      have sX1 := sX.trans s11
      refine kEx (vs := [.int .i64 (checkR h m txs (xs.take k)).1, .int .i64 (checkR h m txs (xs.take k)).2]) rfl (kEx (vs := [.int .i64 (checkR h m txs (xs.take k)).1, .int .i64 (checkR h m txs (xs.take k)).2]) rfl ?_)
      rw [r1, kBin_neq]
      refine kSplit_f (by simp) ?_
      rw [kBin_gtr]
      refine kSplit_f (by simp; omega) ?_
      exact tolds_spec (h := h) (xs := xs) (k := k) (sX1.live hb) (hv.mono sX1) hcap (by omega) (by omega) (by omega) hK _ t1 t3 rfl rfl
  · have sa := (Sub.refl g).new hn2 (some (.cells (reps 0 [(.int .i64 0), (.int .i64 0), (.int .i64 0), (.int .i64 0), (.int .u64 0)]) .exact))
    generalize upd g n2 (some (.cells (reps 0 [(.int .i64 0), (.int .i64 0), (.int .i64 0), (.int .i64 0), (.int .u64 0)]) .exact)) = ga at sa
    refine ⟨q (Sub.refl _) sa, q (Sub.refl _) sa, q (Sub.refl _) sa, fun hn3 => ?_⟩
    have sd := (Sub.refl ga).new hn3 (some (.cells (reps 0 [.int .u64 0]) .exact))
    generalize upd ga (n2 + 1) (some (.cells (reps 0 [.int .u64 0]) .exact)) = gd at sd
    have sad := sa.trans sd
    refine ⟨q sa sd, q sa sd, q sa sd, appE (hm.mono sad) encW_cell (by decide) (by omega) (fun v30 gb nb sb h30 => ⟨q sad sb, q sad sb, ?_⟩)⟩
    have sab := sad.trans sb
    refine Copied27_spec (mT sab) hF (fun v33 gc nc sc h33 => ⟨q sab sc, ?_⟩)
    have sac := sab.trans sc
    refine appE (h69.mono sac) encE_cell (by decide) (by omega) (fun v36 gX nX sX h36 => ⟨q sac sX, ?_⟩)
    have h30 := h30.mono (sc.trans sX)
    have h33 := h33.mono (fun c x h => TsC.mono sX c x h) sX
    have sX := sac.trans sX
    refine Check_spec h30 (by omega) h33 hF h36 (by omega) (fun g11 n11 s11 => ?_)
    have sX1 := sX.trans s11
    refine kEx (vs := [.int .i64 (checkR h m txs (xs.take k)).1, .int .i64 (checkR h m txs (xs.take k)).2]) rfl (kEx (vs := [.int .i64 (checkR h m txs (xs.take k)).1, .int .i64 (checkR h m txs (xs.take k)).2]) rfl ?_)
    rw [r1, kBin_neq]
    refine kSplit_f (by simp) ?_
    rw [kBin_gtr]
    refine kSplit_f (by simp; omega) ?_
    exact tolds_spec (h := h) (xs := xs) (k := k) (sX1.live hb) (hv.mono sX1) hcap (by omega) (by omega) (by omega) hK _ t1 t3 rfl rfl
end Go.Proofs.Ytldlimkjhppjbaa.Gen

namespace Go.Proofs.Ytldlimkjhppjbaa.Gen
open Go Go.Proofs.Ytldlimkjhppjbaa.Abs Go.RowKit
variable {g : G} {n : Nat}
set_option maxRecDepth 100000 in
set_option maxHeartbeats 2000000 in
theorem SerialBegins_spec {cut : Int} {h : Hp} {xs : List Ev} {txs : List (List TxT)} {vm vt a1 : Value} {m : List Int} (hm : Sl encW 1 g vm m) (hT : SlR TsC 1 g vt txs) (hv : Sl encE 5 g a1 xs) (hcap : Cap a1 5) (hl1 : txs.length < 4611686018427387904) (hl2 : ∀ ts ∈ txs, ts.length < 4611686018427387904) {K : Cont} (hK : ∀ g' n', K (.bool true) g' n') :
    AC bellowslaw28_SerialBegins_id [.agg (wC h vm vt).toArray, a1, .int .i64 cut] g n K := by
  refine ACalls.fold X0_mono ?_
  rw [← bellowslaw28_SerialBegins_eq]
  simp only [bellowslaw28_SerialBegins, bellowslaw28_SerialBegins_c, kAgg_a]
  intro hn
  have s1 := (Sub.refl g).new hn (some (.cells (wC h vm vt) .exact))
  have hb1 : upd g n (some (.cells (wC h vm vt) .exact)) n = some (.cells (wC h vm vt) .exact) := upd_same _ _ _
  generalize upd g n (some (.cells (wC h vm vt) .exact)) = g1 at s1 hb1
  have hm1 := hm.mono s1
  have hT1 := hT.mono (fun c x h => TsC.mono s1 c x h) s1
  have hv1 := hv.mono s1
  refine kLd_of hb1 rfl (Fair27_spec hT1 hl1 hl2 fun n2 => ?_)
  rw [kUn_not]
  by_cases hF : Fair27 txs
  · refine kSplit_f (by simp [hF]) (kLd_of hb1 rfl (hm1.len ?_))
    rw [kBin_gtr]
    refine kSplit_d (fun _ => wakes28 fun n' => aRet_of (Sub.refl _) (hK _ _)) (fun hml => hv1.len ?_)
    rw [kBin_gtr]
    refine kSplit_d (fun _ => wakes28 fun n' => aRet_of (Sub.refl _) (hK _ _)) (fun hxl => ?_)
    refine ldW hb1 (kLd_of hb1 rfl (kLd_of hb1 rfl ?_))
    simp only [kPtr_p, kFill_nil]
    have q : ∀ {ga gb : G}, Sub g1 ga → Sub ga gb → gb n = ga n := fun sa sb => (sb.live (sa.live hb1)).trans (sa.live hb1).symm
    have mT : ∀ {gb : G}, Sub g1 gb → SlR TsC 1 gb vt txs := fun s => hT1.mono (fun c x h => TsC.mono s c x h) s
    refine ⟨fun hn2 => ?_, fun hn2 => ?_⟩
    · have sa := (Sub.refl g1).new hn2 (some (.cells (reps 0 [.int .u64 0]) .exact))
      generalize upd g1 n2 (some (.cells (reps 0 [.int .u64 0]) .exact)) = ga at sa
      refine ⟨q (Sub.refl _) sa, q (Sub.refl _) sa, q (Sub.refl _) sa, appE (hm1.mono sa) encW_cell (by decide) (by omega) (fun v30 gb nb sb h30 => ⟨q sa sb, q sa sb, ?_⟩), fun hn3 => ?_⟩
      · have sab := sa.trans sb
        refine ⟨Copied27_spec (mT sab) hF (fun v33 gc nc sc h33 => ⟨q sab sc, fun hn4 => ?_⟩), fun hn4 => ?_⟩
        · have sac := sab.trans sc
          have sd := (Sub.refl gc).new hn4 (some (.cells (reps 0 [(.int .i64 0), (.int .i64 0), (.int .i64 0), (.int .i64 0), (.int .u64 0)]) .exact))
          generalize upd gc nc (some (.cells (reps 0 [(.int .i64 0), (.int .i64 0), (.int .i64 0), (.int .i64 0), (.int .u64 0)]) .exact)) = gd at sd
          have sad := sac.trans sd
          refine ⟨q sac sd, q sac sd, q sac sd, appE (hv1.mono sad) encE_cell (by decide) (by omega) (fun v36 gX nX sX h36 => ⟨q sad sX, ?_⟩)⟩
          have h30 := h30.mono (sc.trans (sd.trans sX))
          have h33 := h33.mono (fun c x h => TsC.mono (sd.trans sX) c x h) (sd.trans sX)
          have hbX := (sad.trans sX).live hb1
          have sX := s1.trans (sad.trans sX)
          refine Check_spec h30 (by omega) h33 hF h36 (by omega) (fun g11 n11 s11 => ?_)
          have sX1 := sX.trans s11
          have hb11 := s11.live hbX
          refine kEx (vs := [.int .i64 (checkR h m txs xs).1, .int .i64 (checkR h m txs xs).2]) rfl (kEx (vs := [.int .i64 (checkR h m txs xs).1, .int .i64 (checkR h m txs xs).2]) rfl ?_)
          rw [kBin_neq]
          refine kSplit_d (fun _ => wakes28 fun n' => aRet_of (Sub.refl _) (hK _ _)) (fun hz => ?_)
          exact cut_spec (h := h) (m := m) (txs := txs) (xs := xs) (cut := cut) hb11 (hm.mono sX1) (by omega) (hT.mono (fun c x h => TsC.mono sX1 c x h) sX1) hF (hv.mono sX1) hcap (by omega) (Classical.byContradiction hz) hK _ rfl rfl rfl rfl
        · have sd := (Sub.refl gb).new hn4 (some (.cells (reps 0 [(.int .i64 0), (.int .i64 0), (.int .i64 0), (.int .i64 0), (.int .u64 0)]) .exact))
          generalize upd gb nb (some (.cells (reps 0 [(.int .i64 0), (.int .i64 0), (.int .i64 0), (.int .i64 0), (.int .u64 0)]) .exact)) = gd at sd
          have sad := sab.trans sd
          refine ⟨q sab sd, q sab sd, q sab sd, Copied27_spec (mT sad) hF (fun v33 gc nc sc h33 => ⟨q sad sc, ?_⟩)⟩
          have sac := sad.trans sc
          refine appE (hv1.mono sac) encE_cell (by decide) (by omega) (fun v36 gX nX sX h36 => ⟨q sac sX, ?_⟩)
          have h30 := h30.mono (sd.trans (sc.trans sX))
          have h33 := h33.mono (fun c x h => TsC.mono sX c x h) sX
          have hbX := (sac.trans sX).live hb1
          have sX := s1.trans (sac.trans sX)
          refine Check_spec h30 (by omega) h33 hF h36 (by omega) (fun g11 n11 s11 => ?_)
          have sX1 := sX.trans s11
          have hb11 := s11.live hbX
          refine kEx (vs := [.int .i64 (checkR h m txs xs).1, .int .i64 (checkR h m txs xs).2]) rfl (kEx (vs := [.int .i64 (checkR h m txs xs).1, .int .i64 (checkR h m txs xs).2]) rfl ?_)
          rw [kBin_neq]
          refine kSplit_d (fun _ => wakes28 fun n' => aRet_of (Sub.refl _) (hK _ _)) (fun hz => ?_)
          exact cut_spec (h := h) (m := m) (txs := txs) (xs := xs) (cut := cut) hb11 (hm.mono sX1) (by omega) (hT.mono (fun c x h => TsC.mono sX1 c x h) sX1) hF (hv.mono sX1) hcap (by omega) (Classical.byContradiction hz) hK _ rfl rfl rfl rfl
      · have sd := (Sub.refl ga).new hn3 (some (.cells (reps 0 [(.int .i64 0), (.int .i64 0), (.int .i64 0), (.int .i64 0), (.int .u64 0)]) .exact))
        generalize upd ga (n2 + 1) (some (.cells (reps 0 [(.int .i64 0), (.int .i64 0), (.int .i64 0), (.int .i64 0), (.int .u64 0)]) .exact)) = gd at sd
        have sad := sa.trans sd
        refine ⟨q sa sd, q sa sd, q sa sd, appE (hm1.mono sad) encW_cell (by decide) (by omega) (fun v30 gb nb sb h30 => ⟨q sad sb, q sad sb, ?_⟩)⟩
        have sab := sad.trans sb
        refine Copied27_spec (mT sab) hF (fun v33 gc nc sc h33 => ⟨q sab sc, ?_⟩)
        have sac := sab.trans sc
        refine appE (hv1.mono sac) encE_cell (by decide) (by omega) (fun v36 gX nX sX h36 => ⟨q sac sX, ?_⟩)
        have h30 := h30.mono (sc.trans sX)
        have h33 := h33.mono (fun c x h => TsC.mono sX c x h) sX
        have hbX := (sac.trans sX).live hb1
        have sX := s1.trans (sac.trans sX)
        refine Check_spec h30 (by omega) h33 hF h36 (by omega) (fun g11 n11 s11 => ?_)
        have sX1 := sX.trans s11
        have hb11 := s11.live hbX
        refine kEx (vs := [.int .i64 (checkR h m txs xs).1, .int .i64 (checkR h m txs xs).2]) rfl (kEx (vs := [.int .i64 (checkR h m txs xs).1, .int .i64 (checkR h m txs xs).2]) rfl ?_)
        rw [kBin_neq]
        refine kSplit_d (fun _ => wakes28 fun n' => aRet_of (Sub.refl _) (hK _ _)) (fun hz => ?_)
        exact cut_spec (h := h) (m := m) (txs := txs) (xs := xs) (cut := cut) hb11 (hm.mono sX1) (by omega) (hT.mono (fun c x h => TsC.mono sX1 c x h) sX1) hF (hv.mono sX1) hcap (by omega) (Classical.byContradiction hz) hK _ rfl rfl rfl rfl
    · have sa := (Sub.refl g1).new hn2 (some (.cells (reps 0 [(.int .i64 0), (.int .i64 0), (.int .i64 0), (.int .i64 0), (.int .u64 0)]) .exact))
      generalize upd g1 n2 (some (.cells (reps 0 [(.int .i64 0), (.int .i64 0), (.int .i64 0), (.int .i64 0), (.int .u64 0)]) .exact)) = ga at sa
      refine ⟨q (Sub.refl _) sa, q (Sub.refl _) sa, q (Sub.refl _) sa, fun hn3 => ?_⟩
      have sd := (Sub.refl ga).new hn3 (some (.cells (reps 0 [.int .u64 0]) .exact))
      generalize upd ga (n2 + 1) (some (.cells (reps 0 [.int .u64 0]) .exact)) = gd at sd
      have sad := sa.trans sd
      refine ⟨q sa sd, q sa sd, q sa sd, appE (hm1.mono sad) encW_cell (by decide) (by omega) (fun v30 gb nb sb h30 => ⟨q sad sb, q sad sb, ?_⟩)⟩
      have sab := sad.trans sb
      refine Copied27_spec (mT sab) hF (fun v33 gc nc sc h33 => ⟨q sab sc, ?_⟩)
      have sac := sab.trans sc
      refine appE (hv1.mono sac) encE_cell (by decide) (by omega) (fun v36 gX nX sX h36 => ⟨q sac sX, ?_⟩)
      have h30 := h30.mono (sc.trans sX)
      have h33 := h33.mono (fun c x h => TsC.mono sX c x h) sX
      have hbX := (sac.trans sX).live hb1
      have sX := s1.trans (sac.trans sX)
      refine Check_spec h30 (by omega) h33 hF h36 (by omega) (fun g11 n11 s11 => ?_)
      have sX1 := sX.trans s11
      have hb11 := s11.live hbX
      refine kEx (vs := [.int .i64 (checkR h m txs xs).1, .int .i64 (checkR h m txs xs).2]) rfl (kEx (vs := [.int .i64 (checkR h m txs xs).1, .int .i64 (checkR h m txs xs).2]) rfl ?_)
      rw [kBin_neq]
      refine kSplit_d (fun _ => wakes28 fun n' => aRet_of (Sub.refl _) (hK _ _)) (fun hz => ?_)
      exact cut_spec (h := h) (m := m) (txs := txs) (xs := xs) (cut := cut) hb11 (hm.mono sX1) (by omega) (hT.mono (fun c x h => TsC.mono sX1 c x h) sX1) hF (hv.mono sX1) hcap (by omega) (Classical.byContradiction hz) hK _ rfl rfl rfl rfl
  · exact kSplit_t (by simp [hF]) (wakes28 fun n' => aRet_of (Sub.refl _) (hK _ _))
end Go.Proofs.Ytldlimkjhppjbaa.Gen

namespace Go.Proofs.Ytldlimkjhppjbaa.Gen
open Go Go.Proofs.Ytldlimkjhppjbaa.Abs Go.RowKit
variable {g : G} {n : Nat}
theorem SerialBegins_row {args : List Value} (hr : RepAs g [(true, [.i .i64, .i .i64, .i .i64, .i .i64, .i .i64, .i .i64, .i .i64, .i .i64, .i .i64, .s [.i .u64], .s [.s [.s [.i .i64, .i .i64, .i .u64], .b]]]), (false, [.s [.i .i64, .i .i64, .i .i64, .i .i64, .i .u64]]), (false, [.i .i64])] args) {K : Cont} (hK : ∀ g' n', K (.bool true) g' n') : AC 6 args g n K := by
  cases hr with
  | cons h1 hr =>
    cases hr with
    | cons h2 hr =>
      cases hr with
      | cons h3 hr =>
        cases hr
        obtain ⟨cutv, rc, ec, _, hnc⟩ := rep_i h3
        cases ec
        obtain ⟨cs, e, h1⟩ := h1
        obtain ⟨a1, r1, e1, _, h⟩ := rep_i h1
        obtain ⟨a2, r2, e2, _, h⟩ := rep_i h
        obtain ⟨a3, r3, e3, _, h⟩ := rep_i h
        obtain ⟨a4, r4, e4, _, h⟩ := rep_i h
        obtain ⟨a5, r5, e5, _, h⟩ := rep_i h
        obtain ⟨a6, r6, e6, _, h⟩ := rep_i h
        obtain ⟨a7, r7, e7, _, h⟩ := rep_i h
        obtain ⟨a8, r8, e8, _, h⟩ := rep_i h
        obtain ⟨a9, r9, e9, _, h⟩ := rep_i h
        obtain ⟨vm, r10, e10, hm, h⟩ := rep_s h
        obtain ⟨vt, r11, e11, ht, h⟩ := rep_s h
        have e0 := rep_nil h
        subst e0 e11 e10 e9 e8 e7 e6 e5 e4 e3 e2 e1
        subst e
        obtain ⟨v, r, e, h2, hn⟩ := rep_s h2
        cases e
        obtain ⟨xs, h2, hc⟩ := rep_sl decEv h2
        obtain ⟨m, hm, _⟩ := rep_sl decW hm
        obtain ⟨txs, ht, htc⟩ := rep_slR (R := TsB) decTs ht
        have hb := SlR.bound ht htc
        obtain ⟨els, q1, q2, q3⟩ := ht
        refine SerialBegins_spec (h := ⟨a1, a2, a3, a4, a5, a6, a7, a8, a9⟩) hm ⟨els, q1, q2, fun i c x hc hx => ⟨(q3 i c x hc hx).1, (q3 i c x hc hx).2.1⟩⟩ h2 (cap_of h2 hc) hb (fun ts hts => ?_) hK
        obtain ⟨i, hi, rfl⟩ := List.mem_iff_getElem.1 hts
        exact (q3 i _ _ (List.getElem?_eq_getElem (by omega)) (List.getElem?_eq_getElem hi)).2.2
end Go.Proofs.Ytldlimkjhppjbaa.Gen
