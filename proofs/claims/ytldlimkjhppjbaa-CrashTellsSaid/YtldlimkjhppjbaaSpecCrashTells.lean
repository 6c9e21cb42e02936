import Derived.KernelRfl
import Derived.Test.YtldlimkjhppjbaaSpecCrashTellsA
/- What the functions come to. -/
set_option linter.all false
set_option linter.deprecated false
namespace Go.Proofs.Ytldlimkjhppjbaa.Gen
open Go Go.Proofs.Ytldlimkjhppjbaa.Abs Go.RowKit
variable {g : G} {n : Nat}
def AllGood (txs : List (List TxT)) : Prop := ∀ ts ∈ txs, ∀ t ∈ ts, GoodT t.ops
instance (txs : List (List TxT)) : Decidable (AllGood txs) := by unfold AllGood; infer_instance
def txAt (txs : List (List TxT)) (c k : Nat) : TxT := (txs.getD c []).getD k ⟨[], false⟩
def chk (h : Hp) (xs : List Ev) (txs : List (List TxT)) : List (Int × Int) → Nat → List Int → Int × Int
  | [], i, _ => (i, 0)
  | b :: bs, i, m =>
    if b.1 < 0 ∨ (txs.length : Int) ≤ b.1 ∨ ((txs.getD b.1.toNat []).length : Int) ≤ b.2 then (i, 16) else
    let r := runTx (roomH h) (txAt txs b.1.toNat b.2.toNat) m
    let got := (toldH h b.1 xs).getD b.2.toNat []
    if got.length ≤ r.2.length ∧ r.2.take got.length = got ∧ (b.2 = ((toldH h b.1 xs).length : Int) - 1 ∨ got.length = r.2.length) then chk h xs txs bs (i + 1) r.1 else (i, 16)
def checkR (h : Hp) (m : List Int) (txs : List (List TxT)) (xs : List Ev) : Int × Int :=
  if GoodH h ∧ (m.length : Int) = wordsH h ∧ (txs.length : Int) = h.cores then (if AllGood txs then chk h xs txs (begH h xs) 0 m else (0, 11)) else (0, 1)
theorem runOps_len (room : Int) : ∀ (ops : List OpT) (s : St), (runOps room ops s).1.length = s.1.length
  | [], s => rfl
  | o :: os, s => by
    unfold runOps
    split
    · rfl
    · cases h : stepO room s o with
      | none => rfl
      | some s' => simp only; rw [runOps_len room os s', (stepO_len h).1]
theorem runTx_len (room : Int) (t : TxT) (m : List Int) : (runTx room t m).1.length = m.length := by
  unfold runTx; simp only
  split
  · exact runOps_len room t.ops (m, 0, [])
  · rfl
theorem runOps_tl (room : Int) : ∀ (ops : List OpT) (s : St), (runOps room ops s).2.1.length ≤ s.2.2.length + ops.length
  | [], s => by simp [runOps]
  | o :: os, s => by
    unfold runOps
    split
    · simp
    · cases h : stepO room s o with
      | none => simp
      | some s' =>
        simp only [List.length_cons]
        have := runOps_tl room os s'
        have := (stepO_len h).2.1
        omega
theorem runTx_tl (room : Int) (t : TxT) (m : List Int) : (runTx room t m).2.length ≤ t.ops.length + 1 := by
  unfold runTx; simp only [List.length_append, List.length_singleton]
  have := runOps_tl room t.ops (m, 0, [])
  simp at this; omega
/-- a beginning's number is one of what its core told -/
theorem beg_told : ∀ (l : List Ev) (out : List (Int × Int)) (T : Int → List (List Int)), (∀ c, countP c out = (T c).length) → (∀ b ∈ out, 0 ≤ b.2 ∧ b.2 < countP b.1 out) →
    (∀ b ∈ l.foldl begStep out, 0 ≤ b.2 ∧ b.2 < ((l.foldl (toldStep b.1) (T b.1)).length : Int))
  | [], out, T, h1, h2 => fun b hb => by have := h2 b hb; rw [h1] at this; exact this
  | e :: l, out, T, h1, h2 => fun b hb => by
    rw [List.foldl_cons] at hb
    rw [List.foldl_cons]
    refine beg_told l (begStep out e) (fun c => toldStep c (T c) e) (fun c => ?_) (fun b hb => ?_) b hb
    · unfold begStep toldStep
      cases hbe : begE e with
      | true =>
        simp only [if_true]
        rw [countP_snoc, h1]
        by_cases hc : c = e.core
        · rw [if_pos hc, if_pos hc.symm]; simp
        · rw [if_neg hc, if_neg (fun e => hc e.symm)]
      | false =>
        simp only [Bool.false_eq_true, if_false]
        rw [h1]
        repeat' split
        all_goals simp
    · unfold begStep at hb ⊢
      cases hbe : begE e with
      | true =>
        rw [hbe] at hb
        simp only [if_true] at hb ⊢
        rw [countP_snoc]
        rcases List.mem_append.1 hb with hb | hb
        · have := h2 b hb
          split <;> omega
        · simp at hb; subst hb; simp; omega
      | false =>
        rw [hbe] at hb
        simp only [Bool.false_eq_true, if_false] at hb ⊢
        exact h2 b hb
theorem begH_told {h : Hp} {xs : List Ev} : ∀ b ∈ begH h xs, 0 ≤ b.2 ∧ b.2 < ((toldH h b.1 xs).length : Int) := fun b hb => by
  unfold begH at hb; unfold toldH
  split at hb
  · rename_i hg
    rw [if_pos hg]
    exact beg_told (firstE xs) [] (fun _ => []) (fun c => by simp [countP]) (by simp) b hb
  · cases hb
theorem toldH_lens {h : Hp} {c : Int} {xs : List Ev} {k : Nat} : (toldH h c xs).length ≤ xs.length ∧ ((toldH h c xs).getD k []).length ≤ xs.length := by
  have hz : ∀ T : List (List Int), T.length ≤ xs.length → (∀ ys ∈ T, ys.length ≤ xs.length) → T.length ≤ xs.length ∧ (T.getD k []).length ≤ xs.length := fun T h1 h2 => by
    refine ⟨h1, ?_⟩
    rw [List.getD_eq_getElem?_getD]
    cases hq : T[k]? with
    | none => simp
    | some ys => exact h2 _ (List.mem_of_getElem? hq)
  unfold toldH; split
  · obtain ⟨q1, q2⟩ := told_lens c (firstE xs) [] 0 (Nat.le_refl _) (by simp)
    have := firstE_len xs
    exact hz _ (by unfold toldF; omega) (fun ys hy => by have := q2 ys hy; omega)
  · exact hz _ (by simp) (by simp)
/-- a transaction is copied into a block of its own -/
theorem copyTx {v : Value} {b : Bool} {z : List Value} {K : G → Prop} (hc : Abs.isCell v = true) (hn : g n = none) (hz : z.length = 2) (k : Sub g (upd g n (some (.cells [v, .bool b] .exact))) → upd g n (some (.cells [v, .bool b] .exact)) n = some (.cells [v, .bool b] .exact) → K (upd g n (some (.cells [v, .bool b] .exact)))) :
    kAgg (.agg ([v, .bool b] : List Value).toArray) fun cs => cs.length = 2 ∧ kStN (upd g n (some (.cells z .exact))) n 0 cs K := by
  refine ⟨rfl, kStN_of (upd_same _ _ _) rfl (by rw [hz]; simp) (by simp [hc]; rfl) ?_⟩
  have e1 : splice z 0 ([v, .bool b] : List Value).toArray.toList = [v, .bool b] := by unfold splice; simp [hz]
  rw [e1, upd_upd]
  exact k ((Sub.refl g).new hn _) (upd_same _ _ _)
theorem getD_of {α : Type} {xs : List α} {k : Nat} {d x : α} (h : xs[k]? = some x) : xs.getD k d = x := by rw [List.getD_eq_getElem?_getD, h]; rfl
end Go.Proofs.Ytldlimkjhppjbaa.Gen

namespace Go.Proofs.Ytldlimkjhppjbaa.Gen
open Go Go.Proofs.Ytldlimkjhppjbaa.Abs Go.RowKit
variable {g : G} {n : Nat}
theorem loop_spec {h : Hp} {xs : List Ev} {txs : List (List TxT)} {v54 vt vx : Value} {l4 lm : Nat} {ms : List (Int × Value)} {bs0 : List (Int × Int)} {g8 : G} {m : List Int} {K : Cont} {res : Int × Int}
    (hb4 : g8 l4 = some (.cells (encH h) .exact)) (hT : SlR TsC 1 g8 vt txs) (hB : Sl encJ 2 g8 v54 bs0) (hM : g8 lm = some (.map (MpE id .i64 ms))) (hTM : ToldM h xs g8 bs0 ms)
    (hAG : AllGood txs) (hbt : ∀ b ∈ bs0, 0 ≤ b.2 ∧ b.2 < ((toldH h b.1 xs).length : Int)) (hlen : xs.length < 1000000) (hbl : bs0.length < 1000000) (htl : txs.length < 1000000)
    (hml0 : 0 < m.length) (hml : m.length ≤ 1000) (hK : ∀ g' n', Sub g8 g' → K (.tuple #[.int .i64 res.1, .int .i64 res.2]) g' n') (mm : Nat) (t : Env) (g9 : G) (n9 : Nat)
    (h9 : ∃ (i : Nat) (vm : Value) (cm : List Int), mm + i = bs0.length ∧ t 58 = v54 ∧ t 59 = .int .i64 (bs0.length : Nat) ∧ t 60 = .int .i64 (i : Nat) ∧ t 12 = v54 ∧ t 13 = .map (some lm) ∧ t 1 = vm ∧ t 2 = vt ∧ t 4 = ptr l4 0 ∧ Sub g8 g9 ∧ Sl encW 1 g9 vm cm ∧ cm.length = m.length ∧ chk h xs txs (bs0.drop i) i cm = res) :
    lfp (serial_Check_l4 AC K) t g9 n9 := by
  refine lfp_ind (m := mm) (Inv := fun mm t g9 n9 => ∃ (i : Nat) (vm : Value) (cm : List Int), mm + i = bs0.length ∧ t 58 = v54 ∧ t 59 = .int .i64 (bs0.length : Nat) ∧ t 60 = .int .i64 (i : Nat) ∧ t 12 = v54 ∧ t 13 = .map (some lm) ∧ t 1 = vm ∧ t 2 = vt ∧ t 4 = ptr l4 0 ∧ Sub g8 g9 ∧ Sl encW 1 g9 vm cm ∧ cm.length = m.length ∧ chk h xs txs (bs0.drop i) i cm = res) ?_ h9
  clear h9
  rintro I mm t g9 n9 ih ⟨i, vm, cm, hm, t58, t59, t60, t12, t13, t1, t2, t4, s9, hvm, hcl, hres⟩
  simp only [serial_Check_l4, t58, t59, t60, kBin_lss]
  refine kSplit_d (fun hj => ?_) (fun hj => ?_)
  · have hj : i < bs0.length := by omega
    have hget : bs0[i]? = some bs0[i] := List.getElem?_eq_getElem hj
    generalize bs0[i] = b at hget
    have hmem := List.mem_of_getElem? hget
    obtain ⟨hb0, hb1⟩ := hbt b hmem
    obtain ⟨vs, css, hms, hSS⟩ := hTM b hmem
    rw [drop_get hget] at hres
    refine (hB.mono s9).idx encJ_len hget (fun l o ha => ?_)
    simp only [kPtr_p]
    refine ha.ldN rfl (fun hn9 => copyJ hn9 rfl fun s10 hb10 => ?_)
    have s8 := s9.trans s10
    have hvm10 := hvm.mono s10
    generalize upd g9 n9 (some (.cells (encJ b) .exact)) = g10 at s10 hb10 s8 hvm10
    refine kIA0 ?_
    rw [kPtr_p]
    refine kLd_of hb10 rfl (kIA1 ?_)
    rw [kPtr_p]
    refine kLd_of hb10 rfl ?_
    have bad : ∀ (g' : G) (n' : Nat), chk h xs txs (b :: bs0.drop (i + 1)) i cm = ((i : Int), (16 : Int)) → Sub g8 g' → aRet K (.tuple #[.int .i64 (i : Nat), .int .i64 16]) g' n' := fun g' n' hc hs => by
      rw [hc] at hres; rw [← hres] at hK
      exact aRet_of (Sub.refl _) (hK g' n' hs)
    -- the place of a transaction
    have j5 : ∀ (t' : Env) (x : Bool), OrS t' 71 75 x → (x = true ↔ b.1 < 0 ∨ (txs.length : Int) ≤ b.1) → t' 14 = .int .i64 (i : Nat) → t' 16 = .int .i64 b.1 → t' 17 = .int .i64 b.2 → t' 58 = v54 → t' 59 = .int .i64 (bs0.length : Nat) → t' 60 = .int .i64 (i : Nat) → t' 12 = v54 → t' 13 = .map (some lm) → t' 1 = vm → t' 2 = vt → t' 4 = ptr l4 0 → serial_Check_j5 AC K I t' g10 (n9 + 1) := by
      intro t' x hO hx q14 q16 q17 q58 q59 q60 q12 q13 q1 q2 q4
      simp only [serial_Check_j5, q14, q16, q17, q13, q1, q2, q4, kPtr_p]
      refine hO.go (fun hxt _ => bad _ _ ?_ s8) (fun hxf _ => ?_)
      · unfold chk; rw [if_pos]; rcases hx.1 hxt with h | h
        · exact .inl h
        · exact .inr (.inl h)
      have hx' : ¬ (b.1 < 0 ∨ (txs.length : Int) ≤ b.1) := fun h => by rw [hx.2 h] at hxf; cases hxf
      obtain ⟨c, hc⟩ : ∃ c : Nat, b.1 = (c : Int) := ⟨b.1.toNat, by omega⟩
      obtain ⟨k, hk⟩ : ∃ k : Nat, b.2 = (k : Int) := ⟨b.2.toNat, by omega⟩
      have hct : b.1.toNat = c := by omega
      have hkt : b.2.toNat = k := by omega
      have hcl' : c < txs.length := by omega
      have hgc : txs[c]? = some txs[c] := List.getElem?_eq_getElem hcl'
      have hgd : txs.getD c [] = txs[c] := getD_of hgc
      generalize txs[c] = ts at hgc hgd
      have hT10 := hT.mono (fun c x h => TsC.mono s8 c x h) s8
      rw [hc, hk]
      refine hT10.idx hgc (fun l o cc ha hcz hx => ?_)
      obtain ⟨vr, rfl, hr⟩ := hx
      rw [kPtr_p]
      refine ha.ld (i := 0) rfl (hr.len ?_)
      rw [kBin_geq]
      refine kSplit_d (fun hkl => bad _ _ ?_ s8) (fun hkl => ?_)
      · unfold chk; rw [if_pos]; rw [hct, hgd]; exact .inr (.inr (by omega))
      have hkl' : k < ts.length := by omega
      have hgk : ts[k]? = some ts[k] := List.getElem?_eq_getElem hkl'
      have hgd2 : txAt txs b.1.toNat b.2.toNat = ts[k] := by unfold txAt; rw [hct, hkt, hgd]; exact getD_of hgk
      generalize ts[k] = tx at hgk hgd2
      have hgood : GoodT tx.ops := hAG ts (List.mem_of_getElem? hgc) tx (List.mem_of_getElem? hgk)
      refine ldH (s8.live hb4) (hT10.idx hgc (fun l2 o2 cc2 ha2 hcz2 hx2 => ?_))
      obtain ⟨vr2, rfl, hr2⟩ := hx2
      rw [kPtr_p]
      refine ha2.ld (i := 0) rfl (hr2.idx hgk (fun l3 o3 cc3 ha3 hcz3 hx3 => ?_))
      obtain ⟨vo, rfl, ho⟩ := hx3
      rw [kPtr_p]
      refine ha3.ldN rfl (Room_spec fun g11 n11 s11 => ?_)
      obtain ⟨bs2, bk2, e2, _⟩ := id ha2
      obtain ⟨bs3, bk3, e3, _⟩ := id ha3
      refine ⟨by rw [kPtr_p, s11.live e2, e2], by rw [kPtr_p, s11.live e3, e3], ?_⟩
      have hrm := roomH_le h
      have s811 := s8.trans s11
      refine Run_spec (hvm10.mono s11) (ho.mono s11) hgood hrm.1 (by omega) (by omega) (by omega) (fun va vb g12 n12 s12 oa ob => ?_)
      have s812 := s811.trans s12
      have hbad := bad g12
      have hstep : chk h xs txs (b :: bs0.drop (i + 1)) i cm = if ((toldH h b.1 xs).getD k []).length ≤ (runTx (roomH h) tx cm).2.length ∧ (runTx (roomH h) tx cm).2.take ((toldH h b.1 xs).getD k []).length = (toldH h b.1 xs).getD k [] ∧ (b.2 = ((toldH h b.1 xs).length : Int) - 1 ∨ ((toldH h b.1 xs).getD k []).length = (runTx (roomH h) tx cm).2.length) then chk h xs txs (bs0.drop (i + 1)) (i + 1) (runTx (roomH h) tx cm).1 else ((i : Int), (16 : Int)) := by
        rw [chk, if_neg, hgd2, hkt]
        rw [hct, hgd]; omega
      have hRl := runTx_len (roomH h) tx cm
      have hRt := runTx_tl (roomH h) tx cm
      have ho16 := hgood.1
      obtain ⟨hTl, hGl⟩ := toldH_lens (h := h) (c := b.1) (xs := xs) (k := k)
      have hSS12 := hSS.mono s812
      rw [hc] at hms
      have hkT : k < (toldH h b.1 xs).length := by omega
      generalize runTx (roomH h) tx cm = rr at oa ob hstep hRl hRt
      obtain ⟨ra, rb⟩ := rr
      generalize toldH h b.1 xs = T at hSS12 hstep hTl hGl hkT
      generalize hgot : T.getD k [] = got at hstep hGl
      simp only at oa ob hstep hRl hRt
      refine kEx (vs := [va, vb, .int .i64 0]) rfl (kEx (vs := [va, vb, .int .i64 0]) rfl (kEx (vs := [va, vb, .int .i64 0]) rfl ?_))
      rw [kBin_neq]
      refine kSplit_f (by simp) (kLookup_m (ev := id) (s812.live hM) ?_)
      rw [hms]
      refine SSget hSS12 hkT (fun l o cg _ _ og hld => ?_)
      rw [hgot] at og
      rw [kPtr_p]
      refine hld _ (kLookup_m (ev := id) (s812.live hM) ?_)
      rw [hms]
      refine hSS12.ho.sl.len ?_
      rw [hSS12.len, kBin_sub, wrap64_of (by omega) (by omega), kBin_eql]
      refine og.sl.len (ob.sl.len ?_)
      rw [kBin_gtr]
      -- what is told
      have j6 : ∀ (t' : Env) (x : Bool), OrS t' 124 133 x → (x = true ↔ rb.length < got.length ∨ (¬ (k : Int) = (T.length : Int) - 1 ∧ got.length < rb.length)) → t' 14 = .int .i64 (i : Nat) → t' 21 = cg → t' 19 = vb → t' 18 = va → t' 58 = v54 → t' 59 = .int .i64 (bs0.length : Nat) → t' 60 = .int .i64 (i : Nat) → t' 12 = v54 → t' 13 = .map (some lm) → t' 2 = vt → t' 4 = ptr l4 0 → serial_Check_j6 AC K I t' g12 n12 := by
        intro t' x hO hx q14 q21 q19 q18 q58 q59 q60 q12 q13 q2 q4
        simp only [serial_Check_j6, q14, q21, q19, q60]
        refine hO.go (fun hxt _ => bad _ _ ?_ s812) (fun hxf _ => ?_)
        · rw [hstep, if_neg]; rintro ⟨h1, h2, h3⟩
          rcases hx.1 hxt with h | ⟨h4, h5⟩
          · omega
          · rcases h3 with h3 | h3
            · omega
            · omega
        have hx' : ¬ (rb.length < got.length ∨ (¬ (k : Int) = (T.length : Int) - 1 ∧ got.length < rb.length)) := fun h => by rw [hx.2 h] at hxf; cases hxf
        refine og.sl.len (ob.sl.to encW_len ob.cap (by omega) (fun v140 h140 _ => ?_))
        refine EqualW_spec og.sl h140 (by omega) (fun n' => ?_)
        rw [kUn_not]
        by_cases he : got = rb.take got.length
        · refine kSplit_f (by rw [decide_eq_true he]; rfl) ?_
          rw [kBin_add, wrap64_of (by omega) (by omega), show ((i : Nat) : Int) + 1 = ((i + 1 : Nat) : Int) by omega]
          rw [hstep, if_pos] at hres
          · exact ih (mm - 1) _ _ _ (by omega) ⟨i + 1, va, ra, by omega, q58, q59, rfl, q12, q13, q18, q2, q4, s812, oa.sl, by omega, hres⟩
          · refine ⟨by omega, he.symm, ?_⟩
            by_cases hl : (k : Int) = (T.length : Int) - 1
            · left; omega
            · right; omega
        · refine kSplit_t (by rw [decide_eq_false he]; rfl) (bad _ _ ?_ s812)
          rw [hstep, if_neg]; rintro ⟨_, h2, _⟩; exact he h2.symm
      refine kSplit_d (fun hgt => ?_) (fun hgt => ?_)
      · exact j6 _ true (.inl ⟨rfl, rfl⟩) ⟨fun _ => .inl (by omega), fun _ => rfl⟩ q14 rfl rfl rfl q58 q59 q60 q12 q13 q2 q4
      · rw [kUn_not]
        by_cases hl : (k : Int) = (T.length : Int) - 1
        · refine kSplit_f (by rw [decide_eq_true hl]; rfl) ?_
          exact j6 _ false (.inr ⟨rfl, rfl⟩) ⟨(fun h => by cases h), (fun h => by rcases h with h | ⟨h, _⟩; omega; exact absurd hl h)⟩ q14 rfl rfl rfl q58 q59 q60 q12 q13 q2 q4
        · refine kSplit_t (by rw [decide_eq_false hl]; rfl) (og.sl.len (ob.sl.len ?_))
          rw [kBin_lss]
          exact j6 _ (decide ((got.length : Int) < rb.length)) (.inr ⟨rfl, rfl⟩) (by simp only [decide_eq_true_eq]; omega) q14 rfl rfl rfl q58 q59 q60 q12 q13 q2 q4
    rw [kBin_lss]
    refine kSplit_d (fun h0 => ?_) (fun h0 => ?_)
    · exact j5 _ true (.inl ⟨rfl, rfl⟩) ⟨fun _ => .inl h0, fun _ => rfl⟩ rfl rfl rfl t58 t59 t60 t12 t13 t1 t2 t4
    · rw [t2]
      refine (hT.mono (fun c x h => TsC.mono s8 c x h) s8).len ?_
      rw [kBin_geq]
      exact j5 _ (decide ((txs.length : Int) ≤ b.1)) (.inr ⟨rfl, rfl⟩) (by simp only [decide_eq_true_eq]; omega) rfl rfl rfl t58 t59 t60 t12 t13 t1 t2 t4
  · have hje : bs0.drop i = [] := List.drop_eq_nil_of_le (by omega)
    rw [hje] at hres
    have e1 : chk h xs txs [] i cm = ((i : Int), (0 : Int)) := rfl
    rw [e1] at hres
    simp only [serial_Check_j7]
    show kLen (t 12) _
    rw [t12]
    refine (hB.mono s9).len (aRet_of (Sub.refl _) ?_)
    have := hK g9 n9 s9
    rw [← hres] at this
    have ei : i = bs0.length := by omega
    rw [ei] at this
    exact this
end Go.Proofs.Ytldlimkjhppjbaa.Gen

namespace Go.Proofs.Ytldlimkjhppjbaa.Gen
open Go Go.Proofs.Ytldlimkjhppjbaa.Abs Go.RowKit
variable {g : G} {n : Nat}
theorem flat_len12 : ∀ (txs : List (List TxT)), (∀ ts ∈ txs, ts.length ≤ 12) → txs.flatten.length ≤ 12 * txs.length
  | [], _ => by simp
  | a :: r, h => by
    have := flat_len12 r (fun ts hts => h ts (List.mem_cons_of_mem _ hts))
    have := h a (by simp)
    simp only [List.flatten_cons, List.length_append, List.length_cons]
    omega
set_option maxHeartbeats 1000000 in
theorem Check_spec {h : Hp} {xs : List Ev} {txs : List (List TxT)} {vm vt vx : Value} {m : List Int} (hm : Sl encW 1 g vm m) (hml : m.length ≤ 1000) (hT : SlR TsC 1 g vt txs) (hF : Fair27 txs) (hv : Sl encE 5 g vx xs) (hlen : xs.length < 1000000) {K : Cont}
    (hK : ∀ g' n', Sub g g' → K (.tuple #[.int .i64 (checkR h m txs xs).1, .int .i64 (checkR h m txs xs).2]) g' n') : AC serial_Check_id [.agg (encH h).toArray, vm, vt, vx] g n K := by
  refine ACalls.fold X0_mono ?_
  rw [← serial_Check_eq]
  simp only [serial_Check, kAgg_a]
  intro hn
  have s1 := (Sub.refl g).new hn (some (.cells (encH h) .exact))
  have hb1 : upd g n (some (.cells (encH h) .exact)) n = some (.cells (encH h) .exact) := upd_same _ _ _
  generalize upd g n (some (.cells (encH h) .exact)) = g1 at s1 hb1
  refine ldH hb1 (GoodH_spec fun g2 n2 s2 => ?_)
  rw [kUn_not]
  have hb2 := s2.live hb1
  have j1 : ∀ (t : Env) (x : Bool) (g3 : G) (n3 : Nat), OrS t 26 31 x → (x = true ↔ ¬ (GoodH h ∧ (m.length : Int) = wordsH h)) → Sub g1 g3 → t 4 = ptr n 0 → t 2 = vt → t 1 = vm → t 3 = vx → serial_Check_j1 AC K t g3 n3 := by
    intro t x g3 n3 hO hx s3 q4 q2 q1 q3
    simp only [serial_Check_j1, q2, q4, kPtr_p]
    have s03 := s1.trans s3
    refine hO.go (fun hxt _ => aRet_of (Sub.refl _) ?_) (fun hxf b => ?_)
    · have := hK g3 n3 s03
      unfold checkR at this; rw [if_neg (fun ⟨h1, h2, _⟩ => hx.1 hxt ⟨h1, h2⟩)] at this; exact this
    have hG : GoodH h ∧ (m.length : Int) = wordsH h := Classical.byContradiction fun hc => by rw [hx.2 hc] at hxf; cases hxf
    have hT3 := hT.mono (fun c x h => TsC.mono s03 c x h) s03
    refine hT3.len (kLd_of (s3.live hb1) rfl ?_)
    rw [kBin_neq]
    refine kSplit_d (fun hc => aRet_of (Sub.refl _) ?_) (fun hc => ?_)
    · have := hK g3 n3 s03
      unfold checkR at this; rw [if_neg (fun ⟨_, _, h3⟩ => hc h3)] at this; exact this
    have hcond : GoodH h ∧ (m.length : Int) = wordsH h ∧ (txs.length : Int) = h.cores := ⟨hG.1, hG.2, Classical.byContradiction hc⟩
    have h0 : 0 < m.length := by
      have h2 := hG.2
      unfold wordsH at h2; rw [if_pos hG.1] at h2
      obtain ⟨_, _, _, h3, _⟩ := hG.1
      omega
    refine Concat_spec hT3 hF (fun v42 g4 n4 s4 h42 => ?_)
    have s04 := s03.trans s4
    have hfl := flat_len12 txs (fun ts hts => (hF.2 ts hts).1)
    have h10 := hF.1
    refine h42.len ?_
    refine lfp_ind (m := txs.flatten.length) (Inv := fun mm e g5 n5 => ∃ j : Nat, mm + j = txs.flatten.length ∧ e 42 = v42 ∧ e 43 = .int .i64 (txs.flatten.length : Nat) ∧ e 44 = .int .i64 (j : Nat) ∧ e 1 = vm ∧ e 2 = vt ∧ e 3 = vx ∧ e 4 = ptr n 0 ∧ Sub g4 g5 ∧ ∀ x ∈ txs.flatten.take j, GoodT x.ops) ?_ ⟨0, by omega, rfl, rfl, rfl, q1, q2, q3, q4, Sub.refl _, by simp⟩
    rintro I mm e g5 n5 ih ⟨j, hm', e42, e43, e44, e1, e2, e3, e4, s5, hall⟩
    have s05 := s04.trans s5
    simp only [serial_Check_l2, e42, e43, e44, kBin_lss]
    refine kSplit_d (fun hj => ?_) (fun hj => ?_)
    · have hj : j < txs.flatten.length := by omega
      have hget : txs.flatten[j]? = some txs.flatten[j] := List.getElem?_eq_getElem hj
      generalize txs.flatten[j] = tx at hget
      have hmem := List.mem_of_getElem? hget
      refine h42.idx hget (fun l o c ha hc hx => ?_)
      obtain ⟨vo, rfl, ho⟩ := hx
      have ho5 := ho.mono s5
      simp only [kPtr_p]
      refine (ha.mono s5).ldN rfl (fun hn5 => copyTx (Sl.isCell ho) hn5 rfl fun s6 hb6 => ?_)
      refine kLdN_of hb6 (by simp) (Good_spec (ho5.mono s6) ?_ fun g7 n7 s7 => ?_)
      · obtain ⟨ts, hts, htx⟩ := List.mem_flatten.1 hmem
        have := (hF.2 ts hts).2 tx htx; omega
      rw [kUn_not]
      by_cases hO : GoodT tx.ops
      · refine kSplit_f (by simp [hO]) ?_
        rw [kBin_add, wrap64_of (by omega) (by omega), show ((j : Nat) : Int) + 1 = ((j + 1 : Nat) : Int) by omega]
        refine ih (mm - 1) _ _ _ (by omega) ⟨j + 1, by omega, e42, e43, rfl, e1, e2, e3, e4, (s5.trans s6).trans s7, fun x hx => ?_⟩
        rw [take_add hget] at hx
        rcases List.mem_append.1 hx with hx | hx
        · exact hall x hx
        · simp at hx; subst hx; exact hO
      · refine kSplit_t (by simp [hO]) (aRet_of (Sub.refl _) ?_)
        have := hK g7 n7 ((s05.trans s6).trans s7)
        have hno : ¬ AllGood txs := fun h => by
          obtain ⟨ts, hts, htx⟩ := List.mem_flatten.1 hmem
          exact hO (h ts hts tx htx)
        unfold checkR at this; rw [if_pos hcond, if_neg hno] at this; exact this
    · rw [List.take_of_length_le (by omega)] at hall
      have hAG : AllGood txs := fun ts hts t ht => hall t (List.mem_flatten.2 ⟨ts, hts, ht⟩)
      have hb5 : g5 n = some (.cells (encH h) .exact) := (s3.trans (s4.trans s5)).live hb1
      have j3 : ∀ t : Env, t 1 = vm → t 2 = vt → t 3 = vx → t 4 = ptr n 0 → serial_Check_j3 AC K t g5 n5 := by
        intro t q1 q2 q3 q4
        simp only [serial_Check_j3, q3, q4, kPtr_p]
        refine ldH hb5 (ldH hb5 (Begins_spec (hv.mono s05) hlen fun v54 g7 n7 s7 o54 f54 => ⟨(s7.live hb5).trans hb5.symm, ?_⟩))
        refine told_spec ((hv.mono s05).mono s7) hlen (fun lm ms g8 n8 s8 hM hTM => ?_)
        have s08 := (s05.trans s7).trans s8
        refine (o54.mono s8).sl.len ?_
        refine loop_spec (h := h) (xs := xs) (txs := txs) (vx := vx) (m := m) (res := checkR h m txs xs) (bs0 := begH h xs) ((s7.trans s8).live hb5) (hT.mono (fun c x h => TsC.mono s08 c x h) s08) (o54.mono s8).sl hM hTM hAG begH_told hlen (by have := begH_len h xs; omega) (by omega) h0 hml (fun g' n' s' => hK g' n' (s08.trans s')) (begH h xs).length _ g8 n8 ⟨0, vm, m, by omega, rfl, rfl, rfl, rfl, rfl, q1, q2, q4, Sub.refl _, hm.mono s08, rfl, ?_⟩
        rw [List.drop_zero]
        unfold checkR; rw [if_pos hcond, if_pos hAG]
      exact j3 _ e1 e2 e3 e4
  by_cases hG : GoodH h
  · refine kSplit_f (by simp [hG]) (((hm.mono s1).mono s2).len (ldH hb2 (Wds_spec fun g3 n3 s3 => ?_)))
    rw [kBin_neq]
    refine j1 _ (decide (¬ (m.length : Int) = wordsH h)) g3 n3 (.inr ⟨rfl, rfl⟩) ?_ (s2.trans s3) rfl rfl rfl rfl
    simp [hG]
  · refine kSplit_t (by simp [hG]) (j1 _ true g2 n2 (.inl ⟨rfl, rfl⟩) ?_ s2 rfl rfl rfl rfl)
    simp [hG]
end Go.Proofs.Ytldlimkjhppjbaa.Gen

namespace Go.Proofs.Ytldlimkjhppjbaa.Gen
open Go Go.Proofs.Ytldlimkjhppjbaa.Abs Go.RowKit
variable {g : G} {n : Nat}
theorem appE {α : Type} {enc : α → List Value} {z l bytes : Nat} {x : Value} {ys : List α} {K : Cont} (hx : Sl enc z g x ys) (hc : ∀ y, ∀ v ∈ enc y, Abs.isCell v = true) (hb : bytes ≤ 1024) (hl : ys.length ≤ 1000000)
    (hK : ∀ v' g' n', Sub g g' → Sl enc z g' v' ys → K v' g' n') : kAppend (.slice (some ⟨l, 0, none⟩) 0 0) x z bytes g n K := by
  have hm : (0 + ys.length) * bytes ≤ 1000000 * 1024 := Nat.mul_le_mul (by omega) hb
  refine OwnS.append (g0 := g) (xs := ([] : List α)) OwnS.empty (Sub.refl _) hx hc (by omega) (by simpa using Nat.le_trans hm (by decide)) (by simp; omega) (fun v' g' n' h3 h4 h5 h6 => ?_)
  rw [List.nil_append] at h4
  exact hK v' g' n' h3 h4.sl
def wC (h : Hp) (vm vt : Value) : List Value := encH h ++ [vm, vt]
theorem ldW {l : Nat} {h : Hp} {vm vt : Value} {bk : BK} {K : List Value → Prop} (hb : g l = some (.cells (wC h vm vt) bk)) (k : K (encH h)) : kLdN g l (0 + 0) 9 K :=
  kLdN_of hb (by simp [wC, encH, encC]) k
end Go.Proofs.Ytldlimkjhppjbaa.Gen

namespace Go.Proofs.Ytldlimkjhppjbaa.Gen
open Go Go.Proofs.Ytldlimkjhppjbaa.Abs Go.RowKit
variable {g : G} {n : Nat}
theorem decEv (c : List Value) (h : RepL g [.i .i64, .i .i64, .i .i64, .i .i64, .i .u64] c) : ∃ x, c = encE x := by
  obtain ⟨a1, r1, e1, _, h⟩ := rep_i h
  obtain ⟨a2, r2, e2, _, h⟩ := rep_i h
  obtain ⟨a3, r3, e3, _, h⟩ := rep_i h
  obtain ⟨a4, r4, e4, _, h⟩ := rep_i h
  obtain ⟨a5, r5, e5, _, h⟩ := rep_i h
  have e := rep_nil h
  subst e e5 e4 e3 e2 e1
  exact ⟨⟨a1, a2, a3, a4, a5⟩, rfl⟩
theorem cap_of {v : Value} {z m : Nat} {cs : List Value} (hr : Rd g v z m cs) (h : ∀ a m c, v = .slice a m c → c < LC ∧ m ≤ c) : Cap v z := by
  obtain ⟨a, c, rfl, _⟩ := hr
  exact .inl (h _ _ _ rfl)
theorem decO (c : List Value) (h : RepL g [.i .i64, .i .i64, .i .u64] c) : ∃ x, c = encO x := by
  obtain ⟨a1, r1, e1, _, h⟩ := rep_i h
  obtain ⟨a2, r2, e2, _, h⟩ := rep_i h
  obtain ⟨a3, r3, e3, _, h⟩ := rep_i h
  have e := rep_nil h
  subst e e3 e2 e1
  exact ⟨⟨a1, a2, a3⟩, rfl⟩
theorem decW (c : List Value) (h : RepL g [.i .u64] c) : ∃ x, c = encW x := by
  obtain ⟨a1, r1, e1, _, h⟩ := rep_i h
  have e := rep_nil h
  subst e e1
  exact ⟨a1, rfl⟩
theorem decTx (c : List Value) (h : RepL g [.s [.i .i64, .i .i64, .i .u64], .b] c) : ∃ t, TxC g c t := by
  obtain ⟨v, r, e1, h1, h⟩ := rep_s h
  obtain ⟨b, r2, e2, h⟩ := rep_b h
  have e := rep_nil h
  subst e e2 e1
  obtain ⟨xs, h2, _⟩ := rep_sl decO h1
  exact ⟨⟨xs, b⟩, v, rfl, h2⟩
def TsB (g : G) (c : List Value) (ts : List TxT) : Prop := TsC g c ts ∧ ts.length < 4611686018427387904
theorem SlR.bound {α : Type} {R : G → List Value → α → Prop} {z : Nat} {v : Value} {xs : List α} (h : SlR R z g v xs) (hc : ∀ a m c, v = .slice a m c → c < LC ∧ m ≤ c) : xs.length < 4611686018427387904 := by
  obtain ⟨els, ⟨a, c, e, _⟩, _⟩ := h
  obtain ⟨h1, h2⟩ := hc _ _ _ e
  unfold LC at h1; omega
theorem decTs (c : List Value) (h : RepL g [.s [.s [.i .i64, .i .i64, .i .u64], .b]] c) : ∃ ts, TsB g c ts := by
  obtain ⟨v, r, e1, h1, h⟩ := rep_s h
  have e := rep_nil h
  subst e e1
  obtain ⟨ts, h2, hc⟩ := rep_slR (R := TxC) decTx h1
  exact ⟨ts, ⟨v, rfl, h2⟩, SlR.bound h2 hc⟩
end Go.Proofs.Ytldlimkjhppjbaa.Gen

namespace Go.Proofs.Ytldlimkjhppjbaa.Gen
open Go Go.Proofs.Ytldlimkjhppjbaa.Abs Go.RowKit
/-! ## a beginning of events -/
theorem takeWhile_take {α : Type} (p : α → Bool) : ∀ (l : List α) (k : Nat), (l.take k).takeWhile p = (l.takeWhile p).take k
  | [], k => by simp
  | a :: l, 0 => by simp
  | a :: l, k + 1 => by
    rw [List.take_succ_cons, List.takeWhile_cons, List.takeWhile_cons]
    split
    · rw [List.take_succ_cons, takeWhile_take p l k]
    · simp
theorem beg_pre : ∀ (l : List Ev) (out : List (Int × Int)), ∃ r, l.foldl begStep out = out ++ r
  | [], out => ⟨[], by simp⟩
  | e :: l, out => by
    rw [List.foldl_cons]
    obtain ⟨r, hr⟩ := beg_pre l (begStep out e)
    rw [hr]
    unfold begStep
    split
    · exact ⟨_, by rw [List.append_assoc]⟩
    · exact ⟨r, rfl⟩
theorem begH_take (h : Hp) (xs : List Ev) (k : Nat) : ∃ r, begH h xs = begH h (xs.take k) ++ r := by
  unfold begH
  split
  · unfold begF firstE
    rw [takeWhile_take]
    obtain ⟨r, hr⟩ := beg_pre ((xs.takeWhile fun (e : Ev) => !decide (e.kind = 11)).drop k) (((xs.takeWhile fun (e : Ev) => !decide (e.kind = 11)).take k).foldl begStep [])
    refine ⟨r, ?_⟩
    rw [← hr, ← List.foldl_append, List.take_append_drop]
  · exact ⟨[], rfl⟩
def LeT (A B : List (List Int)) : Prop := A.length ≤ B.length ∧ (∀ i, i < A.length → ∃ r, B.getD i [] = A.getD i [] ++ r) ∧ ∀ i, i + 1 < A.length → B.getD i [] = A.getD i []
theorem LeT.refl (A : List (List Int)) : LeT A A := ⟨Nat.le_refl _, fun i _ => ⟨[], by simp⟩, fun _ _ => rfl⟩
theorem LeT.step {A B : List (List Int)} (c : Int) (e : Ev) (h : LeT A B) : LeT A (toldStep c B e) := by
  obtain ⟨h1, h2, h3⟩ := h
  unfold toldStep
  split
  · split
    · refine ⟨by simp; omega, fun i hi => ?_, fun i hi => ?_⟩
      · obtain ⟨r, hr⟩ := h2 i hi
        refine ⟨r, ?_⟩
        rw [← hr]; simp [List.getD_eq_getElem?_getD, List.getElem?_append_left (show i < B.length by omega)]
      · rw [← h3 i hi]; simp [List.getD_eq_getElem?_getD, List.getElem?_append_left (show i < B.length by omega)]
    · split
      · rename_i hk
        have hs : ∀ i, i ≠ B.length - 1 → (B.set (B.length - 1) (B.getD (B.length - 1) [] ++ [e.val])).getD i [] = B.getD i [] := fun i hi => by
          simp [List.getD_eq_getElem?_getD, List.getElem?_set, show ¬ B.length - 1 = i from fun e => hi e.symm]
        refine ⟨by simp; omega, fun i hi => ?_, fun i hi => ?_⟩
        · obtain ⟨r, hr⟩ := h2 i hi
          by_cases hi2 : i = B.length - 1
          · subst hi2
            refine ⟨r ++ [e.val], ?_⟩
            have : (B.set (B.length - 1) (B.getD (B.length - 1) [] ++ [e.val])).getD (B.length - 1) [] = B.getD (B.length - 1) [] ++ [e.val] := by
              simp [List.getD_eq_getElem?_getD, List.getElem?_set, show B.length - 1 < B.length by omega]
            rw [this, hr, List.append_assoc]
          · exact ⟨r, by rw [hs i hi2]; exact hr⟩
        · rw [hs i (by omega)]; exact h3 i hi
      · exact ⟨h1, h2, h3⟩
  · exact ⟨h1, h2, h3⟩
theorem LeT.fold {A : List (List Int)} (c : Int) : ∀ (l : List Ev) (B : List (List Int)), LeT A B → LeT A (l.foldl (toldStep c) B)
  | [], _, h => h
  | e :: l, B, h => by rw [List.foldl_cons]; exact LeT.fold c l _ (h.step c e)
theorem toldH_take (h : Hp) (c : Int) (xs : List Ev) (k : Nat) : LeT (toldH h c (xs.take k)) (toldH h c xs) := by
  unfold toldH
  split
  · unfold toldF firstE
    rw [takeWhile_take]
    have := LeT.fold c ((xs.takeWhile fun (e : Ev) => !decide (e.kind = 11)).drop k) _ (LeT.refl (((xs.takeWhile fun (e : Ev) => !decide (e.kind = 11)).take k).foldl (toldStep c) []))
    rw [← List.foldl_append, List.take_append_drop] at this
    exact this
  · exact LeT.refl _
theorem chk_ok {h : Hp} {xs : List Ev} {txs : List (List TxT)} : ∀ (bs : List (Int × Int)) (i : Nat) (m : List Int), (chk h xs txs bs i m).2 = 0 → (chk h xs txs bs i m).1 = (i + bs.length : Nat)
  | [], i, m, _ => rfl
  | b :: bs, i, m, h0 => by
    unfold chk at h0 ⊢
    split
    · rename_i hc; rw [if_pos hc] at h0; cases h0
    · rename_i hc
      rw [if_neg hc] at h0
      simp only at h0 ⊢
      split
      · rename_i h2
        rw [if_pos h2] at h0
        rw [chk_ok bs (i + 1) _ h0, List.length_cons]
        congr 1; omega
      · rename_i h2; rw [if_neg h2] at h0; cases h0
theorem chk_take {h : Hp} {xs : List Ev} {txs : List (List TxT)} {k : Nat} : ∀ (bs r : List (Int × Int)) (i : Nat) (m : List Int), (∀ b ∈ bs, 0 ≤ b.2 ∧ b.2 < ((toldH h b.1 (xs.take k)).length : Int)) → (chk h xs txs (bs ++ r) i m).2 = 0 → (chk h (xs.take k) txs bs i m).2 = 0
  | [], r, i, m, _, _ => rfl
  | b :: bs, r, i, m, hb, h0 => by
    rw [List.cons_append] at h0
    unfold chk at h0 ⊢
    by_cases hc : b.1 < 0 ∨ (txs.length : Int) ≤ b.1 ∨ ((txs.getD b.1.toNat []).length : Int) ≤ b.2
    · rw [if_pos hc] at h0; cases h0
    · rw [if_neg hc] at h0 ⊢
      simp only at h0 ⊢
      split at h0
      · rename_i h2
        obtain ⟨p1, p2, p3⟩ := h2
        obtain ⟨q1, q2, q3⟩ := toldH_take h b.1 xs k
        obtain ⟨hb0, hb1⟩ := hb b (by simp)
        have hlt : b.2.toNat < (toldH h b.1 (xs.take k)).length := by omega
        obtain ⟨r', hr'⟩ := q2 b.2.toNat hlt
        rw [if_pos]
        · exact chk_take bs r (i + 1) _ (fun b hb' => hb b (List.mem_cons_of_mem _ hb')) h0
        · have hl : ((toldH h b.1 xs).getD b.2.toNat []).length = ((toldH h b.1 (xs.take k)).getD b.2.toNat []).length + r'.length := by rw [hr', List.length_append]
          refine ⟨by omega, ?_, ?_⟩
          · have := congrArg (List.take ((toldH h b.1 (xs.take k)).getD b.2.toNat []).length) p2
            rw [List.take_take, Nat.min_eq_left (by omega)] at this
            rw [this, hr']; simp
          · by_cases hl2 : b.2 = ((toldH h b.1 (xs.take k)).length : Int) - 1
            · exact .inl hl2
            · right
              have := q3 b.2.toNat (by omega)
              rcases p3 with p3 | p3
              · omega
              · rw [this] at p3; exact p3
      · cases h0
end Go.Proofs.Ytldlimkjhppjbaa.Gen

namespace Go.Proofs.Ytldlimkjhppjbaa.Gen
open Go Go.Proofs.Ytldlimkjhppjbaa.Abs Go.RowKit
variable {g : G} {n : Nat}
theorem ModN_spec {a : Int} {b : Nat} (hb : 0 < b) (hb2 : b < 1000000) {K : Cont} (hK : ∀ (k n' : Nat), k < b → K (.int .i64 (k : Nat)) g n') : AC bellowskeep_Mod_id [.int .i64 a, .int .i64 (b : Nat)] g n K := by
  refine ACalls.fold X0_mono ?_
  rw [← bellowskeep_Mod_eq]
  simp only [bellowskeep_Mod, kBin_lss]
  refine kSplit_f (by simp; omega) ?_
  rw [kBin_rem]
  have h1 := Int.tmod_lt_of_pos a (show (0 : Int) < b by omega)
  have h2 : -(b : Int) < a.tmod b := Int.lt_tmod_of_pos a (by omega)
  refine ⟨by omega, ?_⟩
  rw [kBin_add, wrap64_of (by omega) (by omega), kBin_rem]
  have h3 := Int.tmod_lt_of_pos (a.tmod b + b) (show (0 : Int) < b by omega)
  have h4 := Int.tmod_nonneg (b : Int) (show 0 ≤ a.tmod b + b by omega)
  refine ⟨by omega, aRet_of (Sub.refl _) ?_⟩
  have := hK ((a.tmod b + b).tmod b).toNat n (by omega)
  rwa [show (((a.tmod b + b).tmod b).toNat : Int) = (a.tmod b + b).tmod b by omega] at this
theorem checkR_take {h : Hp} {m : List Int} {txs : List (List TxT)} {xs : List Ev} (k : Nat) (h0 : (checkR h m txs xs).2 = 0) : (checkR h m txs (xs.take k)).2 = 0 ∧ (checkR h m txs (xs.take k)).1 ≤ (checkR h m txs xs).1 ∧ (txs.length : Int) = h.cores := by
  unfold checkR at h0 ⊢
  by_cases hc : GoodH h ∧ (m.length : Int) = wordsH h ∧ (txs.length : Int) = h.cores
  · rw [if_pos hc] at h0 ⊢
    by_cases hA : AllGood txs
    · rw [if_pos hA] at h0 ⊢
      rw [if_pos hc, if_pos hA]
      obtain ⟨r, hr⟩ := begH_take h xs k
      have e1 := chk_ok _ _ _ h0
      rw [hr] at h0 e1
      have e2 := chk_take (begH h (xs.take k)) r 0 m begH_told h0
      have e3 := chk_ok _ _ _ e2
      rw [hr]
      refine ⟨e2, ?_, hc.2.2⟩
      rw [e1, e3, List.length_append]; omega
    · rw [if_neg hA] at h0; cases h0
  · rw [if_neg hc] at h0; cases h0
end Go.Proofs.Ytldlimkjhppjbaa.Gen

namespace Go.Proofs.Ytldlimkjhppjbaa.Gen
open Go Go.Proofs.Ytldlimkjhppjbaa.Abs Go.RowKit
variable {g : G} {n : Nat}
/-! ## what beginnings came to: the plain side -/
structure StepT where
  out : List Int
  tells : List Int
  told : List Int
def steps (h : Hp) (xs : List Ev) (txs : List (List TxT)) : List (Int × Int) → List Int → List StepT
  | [], _ => []
  | b :: bs, m => ⟨(runTx (roomH h) (txAt txs b.1.toNat b.2.toNat) m).1, (runTx (roomH h) (txAt txs b.1.toNat b.2.toNat) m).2, (toldH h b.1 xs).getD b.2.toNat []⟩ :: steps h xs txs bs (runTx (roomH h) (txAt txs b.1.toNat b.2.toNat) m).1
def com (l : List Int) : Prop := l.getD (l.length - 1) 0 = 101
instance (l : List Int) : Decidable (com l) := by unfold com; infer_instance
abbrev PastT := List Int × List Int × Option (List Int)
def pstL : List StepT → Nat → List Int → List Int → PastT
  | [], _, ss, m => (ss, m, none)
  | s :: r, i, ss, m => if com s.tells then (if r ≠ [] ∨ s.told.length = s.tells.length then pstL r (i + 1) (ss ++ [(i : Int)]) s.out else (ss, m, some s.out)) else pstL r (i + 1) ss m
def ofR (h : Hp) (m : List Int) (txs : List (List TxT)) (xs : List Ev) : PastT :=
  if (checkR h m txs xs).2 = 0 then pstL (steps h xs txs (begH h xs) m) 0 [] m else ([], [], none)
def mapsR (h : Hp) (m : List Int) (txs : List (List TxT)) (xs : List Ev) : List (List Int) :=
  if (checkR h m txs xs).2 = 0 then (match (ofR h m txs xs).2.2 with | none => [(ofR h m txs xs).2.1] | some y => [(ofR h m txs xs).2.1, y]) else []
theorem com_runTx {room : Int} {t : TxT} {m : List Int} (h : ¬ com (runTx room t m).2) : (runTx room t m).1 = m := by
  unfold com at h
  unfold runTx at h ⊢
  simp only [List.length_append, List.length_singleton, Nat.add_sub_cancel] at h ⊢
  rw [if_neg]
  intro e
  apply h
  rw [e]; simp [List.getD_eq_getElem?_getD]
theorem steps_len (h : Hp) (xs : List Ev) (txs : List (List TxT)) : ∀ (bs : List (Int × Int)) (m : List Int), (steps h xs txs bs m).length = bs.length
  | [], _ => rfl
  | b :: bs, m => by simp [steps, steps_len h xs txs bs]
theorem steps_nil {h : Hp} {xs : List Ev} {txs : List (List TxT)} {bs : List (Int × Int)} {m : List Int} : steps h xs txs bs m ≠ [] ↔ bs ≠ [] := by
  cases bs <;> simp [steps]
theorem pstL_len : ∀ (l : List StepT) (i : Nat) (ss m : List Int), (∀ s ∈ l, s.out.length = m.length) → (pstL l i ss m).2.1.length = m.length ∧ (∀ y, (pstL l i ss m).2.2 = some y → y.length = m.length) ∧ (pstL l i ss m).1.length ≤ ss.length + l.length
  | [], i, ss, m, _ => by simp [pstL]
  | s :: r, i, ss, m, h => by
    unfold pstL
    have h1 := h s (by simp)
    have h2 := fun x hx => h x (List.mem_cons_of_mem _ hx)
    split
    · split
      · obtain ⟨q1, q2, q3⟩ := pstL_len r (i + 1) (ss ++ [(i : Int)]) s.out (fun x hx => by rw [h2 x hx, h1])
        refine ⟨by rw [q1, h1], fun y hy => by rw [q2 y hy, h1], ?_⟩
        have e1 : (ss ++ [(i : Int)]).length = ss.length + 1 := by simp
        rw [e1] at q3; simp only [List.length_cons]; omega
      · refine ⟨rfl, fun y hy => by cases hy; exact h1, by simp⟩
    · obtain ⟨q1, q2, q3⟩ := pstL_len r (i + 1) ss m h2
      exact ⟨q1, q2, by simp only [List.length_cons]; omega⟩
theorem steps_out {h : Hp} {xs : List Ev} {txs : List (List TxT)} : ∀ (bs : List (Int × Int)) (m : List Int), ∀ s ∈ steps h xs txs bs m, s.out.length = m.length ∧ s.tells ≠ []
  | [], _, s, hs => by simp [steps] at hs
  | b :: bs, m, s, hs => by
    simp only [steps, List.mem_cons] at hs
    rcases hs with rfl | hs
    · exact ⟨runTx_len _ _ _, by unfold runTx; simp⟩
    · have := steps_out bs _ s hs; rw [runTx_len] at this; exact this
/-! ## ints, a growing list in an object -/
def encZ (i : Int) : List Value := [.int .i64 i]
theorem encZ_len (i : Int) : (encZ i).length = 1 := rfl
theorem encZ_cell (i : Int) : ∀ v ∈ encZ i, Abs.isCell v = true := by simp [encZ, isCell]
theorem Ints_spec {v w : Value} {xs ys : List Int} (hv : Sl encZ 1 g v xs) (hw : Sl encZ 1 g w ys) (hlen : xs.length < 1000000) {K : Cont}
    (hK : ∀ n', K (.bool (decide (xs = ys))) g n') : AC bellowskeep_Ints_id [v, w] g n K := by
  refine ACalls.fold X0_mono ?_
  rw [← bellowskeep_Ints_eq]
  simp only [bellowskeep_Ints]
  refine hv.len (hw.len ?_)
  simp only [kBin_neq, kSplit_b, decide_eq_true_eq, decide_eq_false_iff_not]
  refine ⟨fun h => aRet_of (Sub.refl _) ?_, fun h => ?_⟩
  · have : xs ≠ ys := fun e => h (by rw [e])
    simpa [this] using hK n
  have hl : xs.length = ys.length := by omega
  refine lfp_ind (fun m t g' n' => g' = g ∧ ∃ i : Nat, m = xs.length - i ∧ i ≤ xs.length ∧ t 0 = v ∧ t 1 = w ∧ t 5 = .int .i64 i ∧ xs.take i = ys.take i) ?_
    (m := xs.length) ⟨rfl, 0, by simp, by simp, rfl, rfl, rfl, rfl⟩
  rintro I m t g1 n1 hI ⟨rfl, i, hm, hi, h0, h1, h5, hp⟩
  simp only [bellowskeep_Ints_l1, h0, h1, h5]
  refine hv.len ?_
  simp only [kBin_lss, kSplit_b, decide_eq_true_eq, decide_eq_false_iff_not]
  refine ⟨fun hlt => ?_, fun hge => ?_⟩
  · have hlt : i < xs.length := by omega
    refine hv.idx encZ_len (List.getElem?_eq_getElem hlt) (fun l o ha => ?_)
    simp only [kPtr_p]
    refine ha.ld (i := 0) rfl ?_
    refine hw.idx encZ_len (List.getElem?_eq_getElem (hl ▸ hlt)) (fun l o ha => ?_)
    simp only [kPtr_p]
    refine ha.ld (i := 0) rfl ?_
    simp only [kBin_neq, kSplit_b, decide_eq_true_eq, decide_eq_false_iff_not, kBin_add]
    refine ⟨fun h => aRet_of (Sub.refl _) ?_, fun h => ?_⟩
    · have : xs ≠ ys := fun e => h (by subst e; rfl)
      simpa [this] using hK n1
    · rw [wrapNat (by omega)]
      refine hI (xs.length - (i + 1)) _ _ _ (by omega) ⟨rfl, i + 1, rfl, by omega, h0, h1, rfl, ?_⟩
      rw [List.take_add_one, List.take_add_one, List.getElem?_eq_getElem hlt, List.getElem?_eq_getElem (hl ▸ hlt), hp]
      have : xs[i] = ys[i] := Classical.byContradiction h
      simp [this]
  · have : i = xs.length := by omega
    subst this
    rw [List.take_length, hl, List.take_length] at hp
    exact aRet_of (Sub.refl _) (by simpa [hp] using hK n1)
/-- an object at lp whose first cell is a list of ints of its own; gO: all else -/
structure Pst (gO g : G) (lp : Nat) (vs : Value) (rest : List Value) (ss : List Int) : Prop where
  sub : Sub gO g
  lp0 : gO lp = none
  fr : ∀ l ∈ blks vs, gO l = none
  nin : lp ∉ blks vs
  nl : ss = [] → blks vs = []
  hs : OwnS encZ 1 none0 g vs ss
  hb : g lp = some (.cells (vs :: rest) .exact)
variable {gO gX : G} {lp : Nat} {vs va : Value} {rest : List Value} {ss ra : List Int}
def hid (g : G) (lp : Nat) (vs : Value) : G := upd (hideV g vs) lp none
theorem hid_sub : Sub (hid g lp vs) g := fun l => by
  unfold hid
  by_cases e : l = lp
  · subst e; exact .inl (upd_same _ _ _)
  · rw [upd_ne _ _ e]; exact hideV_sub g vs l
theorem hid_live {l : Nat} {b : Blk} (h : g l = some b) (h1 : l ≠ lp) (h2 : l ∉ blks vs) : hid g lp vs l = some b := by
  unfold hid; rw [upd_ne _ _ h1]; exact hideV_some.2 ⟨h2, h⟩
theorem Pst.next (h : Pst gO g lp vs rest ss) (s : Sub g gX) : Pst (hid gX lp vs) gX lp vs rest ss ∧ Sub gO (hid gX lp vs) := by
  refine ⟨⟨hid_sub, upd_same _ _ _, fun l hl => ?_, h.nin, h.nl, h.hs.mono s, s.live h.hb⟩, fun l => ?_⟩
  · unfold hid
    by_cases e : l = lp
    · subst e; exact upd_same _ _ _
    · rw [upd_ne _ _ e]; unfold hideV; rw [if_pos hl]
  · cases hq : gO l with
    | none => exact .inl rfl
    | some b =>
      refine .inr (hid_live (s.live (h.sub.live hq)) (fun e => ?_) (fun hm => ?_)).symm
      · subst e; rw [h.lp0] at hq; cases hq
      · rw [h.fr l hm] at hq; cases hq
theorem OwnS.slv {α : Type} {enc : α → List Value} {z : Nat} {g0 : G} {v : Value} {xs : List α} (h : OwnS enc z g0 g v xs) : ∃ a m c, v = .slice a m c := by
  rcases h with ⟨_, _, a, rfl, _⟩ | ⟨l, c, bk, rfl, _⟩
  · exact ⟨_, _, _, rfl⟩
  · exact ⟨_, _, _, rfl⟩
theorem Pst.hidW (h : Pst gO g lp vs rest ss) (s : Sub g gX) (h0 : ra ≠ []) (ho : OwnS encW 1 none0 gX va ra) : Sl encW 1 (hid gX lp vs) va ra := by
  obtain ⟨l, cc, bk, e1, _, e3⟩ := ho.blk1 h0
  refine (ho.keepB fun l' b h1 h2 => ?_).sl
  rw [e1] at h2; simp at h2; subst h2
  rw [e3] at h1; cases h1
  cases ra with
  | nil => exact absurd rfl h0
  | cons x ra =>
  refine hid_live e3 (fun e => ?_) (fun hm => ?_)
  · subst e
    rw [s.live h.hb] at e3
    obtain ⟨a, m, c, ev⟩ := OwnS.slv h.hs
    rw [ev] at e3
    simp [encW] at e3
  · have hne : ss ≠ [] := fun e => by rw [h.nl e] at hm; cases hm
    obtain ⟨l2, c2, bk2, f1, _, f3⟩ := (h.hs.mono s).blk1 hne
    rw [f1] at hm; simp at hm; subst hm
    rw [f3] at e3
    cases ss with
    | nil => exact absurd rfl hne
    | cons y ss => simp [encW, encZ] at e3
theorem Pst.set {rest' : List Value} (h : Pst gO g lp vs rest ss) : Pst gO (upd g lp (some (.cells (vs :: rest') .exact))) lp vs rest' ss := by
  refine ⟨fun l => ?_, h.lp0, h.fr, h.nin, h.nl, h.hs.keepB fun l b h1 h2 => ?_, upd_same _ _ _⟩
  · by_cases e : l = lp
    · subst e; exact .inl h.lp0
    · rw [upd_ne _ _ e]; exact h.sub l
  · rw [upd_ne _ _ (fun e : l = lp => h.nin (e ▸ h2))]; exact h1
theorem Pst.one {i : Int} {K : Value → G → Nat → Prop} (h : Pst gO g lp vs rest ss) (hn : g n = none) (hl : ss.length < 1000000)
    (hK : ∀ v' g' n', Pst gO g' lp v' rest (ss ++ [i]) → K v' g' n') :
    kAppend vs (.slice (some ⟨n, 0, none⟩) 1 1) 1 8 (upd g n (some (.cells (encZ i) .exact))) (n + 1) fun v' g1 n1 => kSt g1 lp 0 v' fun g' => K v' g' n1 := by
  have hs := (Sub.refl g).new hn (some (.cells (encZ i) .exact))
  have o1 : [i].length = 1 := rfl
  refine own_app (g := upd g n (some (.cells (encZ i) .exact))) (h.hs.mono hs) (Sl.one (x := i) rfl (upd_same _ _ _)) encZ_cell (by decide) (by rw [o1]; omega) (by rw [o1]; omega) (by simp) (fun v' g' n' ho hk hf => ?_)
  have hf' : ∀ l ∈ blks v', g l = none := fun l hl => hs.none (hf l hl)
  have hk' : ∀ l b, g l = some b → l ∉ blks vs → g' l = some b := fun l b hl hnl => hk l b (hs.live hl) hnl
  have nlp : lp ∉ blks v' := fun hm => by have := hf' _ hm; rw [h.hb] at this; cases this
  refine kSt_of (hk' _ _ h.hb h.nin) rfl (by simp) ho.isCell ?_
  refine hK _ _ _ ⟨fun l => ?_, h.lp0, fun l hl => h.sub.none (hf' l hl), nlp, fun e => by simp at e, ho.keepB fun l b h1 h2 => ?_, upd_same _ _ _⟩
  · cases hq : gO l with
    | none => exact .inl rfl
    | some b =>
      have e : l ≠ lp := fun e => by subst e; rw [h.lp0] at hq; cases hq
      rw [upd_ne _ _ e]
      exact .inr (hk' l b (h.sub.live hq) (fun hm => by rw [h.fr l hm] at hq; cases hq)).symm
  · rw [upd_ne _ _ (fun e : l = lp => nlp (e ▸ h2))]; exact h1
end Go.Proofs.Ytldlimkjhppjbaa.Gen

namespace Go.Proofs.Ytldlimkjhppjbaa.Gen
open Go Go.Proofs.Ytldlimkjhppjbaa.Abs Go.RowKit
variable {g : G} {n : Nat}
theorem chk_in {h : Hp} {xs : List Ev} {txs : List (List TxT)} : ∀ (bs : List (Int × Int)) (i : Nat) (m : List Int), (chk h xs txs bs i m).2 = 0 → ∀ b ∈ bs, 0 ≤ b.1 ∧ b.1 < (txs.length : Int) ∧ b.2 < ((txs.getD b.1.toNat []).length : Int)
  | [], i, m, _ => by simp
  | b :: bs, i, m, h0 => by
    unfold chk at h0
    split at h0
    · cases h0
    · rename_i hc
      simp only at h0
      split at h0
      · intro c hm
        rcases List.mem_cons.1 hm with rfl | hm
        · omega
        · exact chk_in bs _ _ h0 c hm
      · cases h0
def NilOr (g : G) (v : Value) : Option (List Int) → Prop
  | none => v = .slice none 0 0
  | some x => Sl encW 1 g v x ∧ ∃ a m c, v = .slice (some a) m c
theorem NilOr.mono {g' : G} {v : Value} {o : Option (List Int)} (h : NilOr g v o) (s : Sub g g') : NilOr g' v o := by
  cases o with
  | none => exact h
  | some x => exact ⟨h.1.mono s, h.2⟩
structure PastR (g : G) (vs vm vy : Value) (p : PastT) : Prop where
  s : Sl encZ 1 g vs p.1
  m : Sl encW 1 g vm p.2.1
  y : NilOr g vy p.2.2
  c : Cap vs 1
theorem NilOr.isCell {v : Value} {o : Option (List Int)} (h : NilOr g v o) : Abs.isCell v = true := by
  cases o with
  | none => rw [show v = .slice none 0 0 from h]; rfl
  | some x => exact Sl.isCell h.1
theorem PastR.mono {g' : G} {vs vm vy : Value} {p : PastT} (h : PastR g vs vm vy p) (s : Sub g g') : PastR g' vs vm vy p := ⟨h.s.mono s, h.m.mono s, h.y.mono s, h.c⟩
theorem PastR.nil : PastR g (.slice none 0 0) (.slice none 0 0) (.slice none 0 0) ([], [], none) := ⟨OwnS.nil.sl (g0 := none0), OwnS.nil.sl (g0 := none0), rfl, OwnS.cap (OwnS.nil (enc := encZ) (z := 1) (g0 := none0) (g := g))⟩
/-- a slice of words is not in a block of other things -/
theorem Sl.updW {v : Value} {x : List Int} {l : Nat} {bs : List Value} {bk : BK} {b : Blk} (h : Sl encW 1 g v x) (hl : g l = some (.cells bs bk)) (hb : ∀ c ∈ bs, ∀ i, c ≠ .int .u64 i) : Sl encW 1 (upd g l (some b)) v x := by
  obtain ⟨a, c, rfl, q1, q2, q3⟩ := h
  refine ⟨a, c, rfl, q1, q2, fun h0 => ?_⟩
  obtain ⟨l', o, bs', bk', rfl, hg, q4, q5⟩ := q3 h0
  refine ⟨l', o, bs', bk', rfl, ?_, q4, q5⟩
  rw [upd_ne]; exact hg
  rintro rfl
  rw [hl] at hg; cases hg
  cases x with
  | nil => simp at h0
  | cons y x =>
    have : (.int .u64 y : Value) ∈ bs := by
      have h1 : (.int .u64 y : Value) ∈ ((y :: x).map encW).flatten := by simp [encW]
      rw [← q5] at h1
      exact List.mem_of_mem_drop (List.mem_of_mem_take h1)
    exact hb _ this y rfl
theorem NilOr.updW {v : Value} {x : Option (List Int)} {l : Nat} {bs : List Value} {bk : BK} {b : Blk} (h : NilOr g v x) (hl : g l = some (.cells bs bk)) (hb : ∀ c ∈ bs, ∀ i, c ≠ .int .u64 i) : NilOr (upd g l (some b)) v x := by
  cases x with
  | none => exact h
  | some x => exact ⟨Sl.updW h.1 hl hb, h.2⟩
abbrev zP : List Value := [(.slice none 0 0), (.slice none 0 0), (.slice none 0 0)]
/-- the result's block is filled and told -/
theorem past_exit {l8 : Nat} {g0 gO gx : G} {lp : Nat} {vs vm vy : Value} {ss cm : List Int} {my : Option (List Int)} {K : Cont} (s0 : Sub g0 gO) (h0 : g0 l8 = none) (h8 : gO l8 = some (.cells zP .exact)) (hP : Pst gO gx lp vs [vm, vy] ss) (hm : Sl encW 1 gO vm cm) (hy : NilOr gO vy my)
    (hK : ∀ vs vm vy g' n', Sub g0 g' → PastR g' vs vm vy (ss, cm, my) → K (.tuple #[.agg ([vs, vm, vy] : List Value).toArray, .int .i64 0]) g' n') :
    kLdN gx lp 0 3 fun c113 => kAgg (.agg c113.toArray) fun cg => cg.length = 3 ∧ kStN gx l8 0 cg fun g' => kLdN g' l8 0 3 fun r0 => aRet K (.tuple #[(.agg r0.toArray), (.int .i64 0)]) g' n := by
  refine kLdN_of hP.hb (by simp) ?_
  rw [kAgg_a]
  have hz : ∀ c ∈ zP, ∀ i : Int, c ≠ .int .u64 i := by simp
  have n8 : l8 ∉ blks vs := fun hm => by rw [hP.fr _ hm] at h8; cases h8
  refine ⟨by simp, kStN_of (hP.sub.live h8) rfl (by simp) (by simp [hP.hs.isCell, Sl.isCell hm, hy.isCell]) (kLdN_of (upd_same _ _ _) (by simp [splice]) (aRet_of (Sub.refl _) ?_))⟩
  refine hK vs vm vy _ _ (fun l => ?_) ⟨?_, ?_, ?_, OwnS.cap hP.hs⟩
  · by_cases e : l = l8
    · subst e; exact .inl h0
    · rw [upd_ne _ _ e]; exact (s0.trans hP.sub) l
  · exact (hP.hs.keepB fun l b h1 h2 => by rw [upd_ne _ _ (fun e : l = l8 => n8 (e ▸ h2))]; exact h1).sl
  · exact (Sl.updW hm h8 hz).mono (hP.sub.upd _ _)
  · exact (hy.updW h8 hz).mono (hP.sub.upd _ _)
set_option maxHeartbeats 4000000 in
theorem of_loop {h : Hp} {xs : List Ev} {txs : List (List TxT)} {v38 vt vx : Value} {l4 l8 l12 : Nat} {bs0 : List (Int × Int)} {g0 gB : G} {m : List Int} {K : Cont} {res : PastT}
    (s0 : Sub g0 gB) (h0 : g0 l8 = none) (h8 : gB l8 = some (.cells zP .exact)) (hb4 : gB l4 = some (.cells (encH h) .exact)) (hT : SlR TsC 1 gB vt txs) (hB : Sl encJ 2 gB v38 bs0) (hv : Sl encE 5 gB vx xs)
    (hAG : AllGood txs) (hbt : ∀ b ∈ bs0, 0 ≤ b.2 ∧ b.2 < ((toldH h b.1 xs).length : Int)) (hbi : ∀ b ∈ bs0, 0 ≤ b.1 ∧ b.1 < (txs.length : Int) ∧ b.2 < ((txs.getD b.1.toNat []).length : Int)) (hlen : xs.length < 1000000) (hbl : bs0.length < 1000000) (htl : txs.length < 1000000)
    (hml0 : 0 < m.length) (hml : m.length ≤ 1000) (hK : ∀ vs vm vy g' n', Sub g0 g' → PastR g' vs vm vy res → K (.tuple #[.agg ([vs, vm, vy] : List Value).toArray, .int .i64 0]) g' n') (mm : Nat) (t : Env) (g9 : G) (n9 : Nat)
    (h9 : ∃ (i : Nat) (vs vm vy : Value) (ss cm : List Int) (my : Option (List Int)) (gO : G), mm + i = bs0.length ∧ t 39 = v38 ∧ t 40 = .int .i64 (bs0.length : Nat) ∧ t 41 = .int .i64 (i : Nat) ∧ t 13 = v38 ∧ t 12 = ptr l12 0 ∧ t 8 = ptr l8 0 ∧ t 2 = vt ∧ t 3 = vx ∧ t 4 = ptr l4 0 ∧ Sub gB gO ∧ Pst gO g9 l12 vs [vm, vy] ss ∧ Sl encW 1 gO vm cm ∧ NilOr gO vy my ∧ cm.length = m.length ∧ ss.length ≤ i ∧ (my ≠ none → bs0.drop i = []) ∧ (match my with | none => pstL (steps h xs txs (bs0.drop i) cm) i ss cm | some y => (ss, cm, some y)) = res) :
    lfp (crash_of_l1 AC K) t g9 n9 := by
  refine lfp_ind (m := mm) (Inv := fun mm t g9 n9 => ∃ (i : Nat) (vs vm vy : Value) (ss cm : List Int) (my : Option (List Int)) (gO : G), mm + i = bs0.length ∧ t 39 = v38 ∧ t 40 = .int .i64 (bs0.length : Nat) ∧ t 41 = .int .i64 (i : Nat) ∧ t 13 = v38 ∧ t 12 = ptr l12 0 ∧ t 8 = ptr l8 0 ∧ t 2 = vt ∧ t 3 = vx ∧ t 4 = ptr l4 0 ∧ Sub gB gO ∧ Pst gO g9 l12 vs [vm, vy] ss ∧ Sl encW 1 gO vm cm ∧ NilOr gO vy my ∧ cm.length = m.length ∧ ss.length ≤ i ∧ (my ≠ none → bs0.drop i = []) ∧ (match my with | none => pstL (steps h xs txs (bs0.drop i) cm) i ss cm | some y => (ss, cm, some y)) = res) ?_ h9
  clear h9
  rintro I mm t g9 n9 ih ⟨i, vs, vm, vy, ss, cm, my, gO, hm, t39, t40, t41, t13, t12, t8, t2, t3, t4, hgB, hP, hvm, hvy, hcl, hsl, hmy, hres⟩
  simp only [crash_of_l1, t39, t40, t41, t13, t12, t2, t3, t4, kBin_lss]
  refine kSplit_d (fun hj => ?_) (fun hj => ?_)
  · have hj : i < bs0.length := by omega
    have hget : bs0[i]? = some bs0[i] := List.getElem?_eq_getElem hj
    generalize bs0[i] = b at hget
    have hmem := List.mem_of_getElem? hget
    obtain ⟨hb0, hb1⟩ := hbt b hmem
    obtain ⟨hb2, hb3, hb4'⟩ := hbi b hmem
    have hdrop := drop_get hget
    rw [hdrop] at hres hmy
    have hnone : my = none := by
      cases my with
      | none => rfl
      | some y => exact absurd (hmy (by simp)) (by simp)
    subst hnone
    simp only [steps] at hres
    have sB9 : Sub gB g9 := hgB.trans hP.sub
    refine (hB.mono sB9).idx encJ_len hget (fun l o ha => ?_)
    simp only [kPtr_p]
    refine ha.ldN rfl (fun hn9 => copyJ hn9 rfl fun s10 hb10 => ?_)
    generalize upd g9 n9 (some (.cells (encJ b) .exact)) = g10 at s10 hb10
    have sB10 := sB9.trans s10
    have hvm10 := (hvm.mono hP.sub).mono s10
    refine kLd_of (s10.live hP.hb) rfl (ldH (sB10.live hb4) (kIA0 ?_))
    rw [kPtr_p]
    obtain ⟨c, hc⟩ : ∃ c : Nat, b.1 = (c : Int) := ⟨b.1.toNat, by omega⟩
    obtain ⟨k, hk⟩ : ∃ k : Nat, b.2 = (k : Int) := ⟨b.2.toNat, by omega⟩
    have hct : b.1.toNat = c := by omega
    have hkt : b.2.toNat = k := by omega
    have hcl' : c < txs.length := by omega
    have hgc : txs[c]? = some txs[c] := List.getElem?_eq_getElem hcl'
    have hgd : txs.getD c [] = txs[c] := getD_of hgc
    generalize txs[c] = ts at hgc hgd
    have hkl' : k < ts.length := by rw [hct, hgd] at hb4'; omega
    have hgk : ts[k]? = some ts[k] := List.getElem?_eq_getElem hkl'
    have hgd2 : txAt txs b.1.toNat b.2.toNat = ts[k] := by unfold txAt; rw [hct, hkt, hgd]; exact getD_of hgk
    generalize ts[k] = tx at hgk hgd2
    have hgood : GoodT tx.ops := hAG ts (List.mem_of_getElem? hgc) tx (List.mem_of_getElem? hgk)
    have hT10 := hT.mono (fun c x h => TsC.mono sB10 c x h) sB10
    have e53 : (encJ b)[0]? = some (.int .i64 (c : Int)) := by rw [← hc]; rfl
    have e57 : (encJ b)[0 + 1]? = some (.int .i64 (k : Int)) := by rw [← hk]; rfl
    refine kLd_of hb10 e53 (hT10.idx hgc (fun l2 o2 cc2 ha2 hcz2 hx2 => ?_))
    obtain ⟨vr2, rfl, hr2⟩ := hx2
    rw [kPtr_p]
    refine ha2.ld (i := 0) rfl (kIA1 ?_)
    rw [kPtr_p]
    refine kLd_of hb10 e57 (hr2.idx hgk (fun l3 o3 cc3 ha3 hcz3 hx3 => ?_))
    obtain ⟨vo, rfl, ho⟩ := hx3
    rw [kPtr_p]
    refine ha3.ldN rfl (Room_spec fun g11 n11 s11 => ?_)
    obtain ⟨bs2, bk2, e2, _⟩ := id ha2
    obtain ⟨bs3, bk3, e3, _⟩ := id ha3
    have hP10 := s10.live hP.hb
    refine ⟨(s11.live hP10).trans hP10.symm, (s11.live hb10).trans hb10.symm, (s11.live e2).trans e2.symm, (s11.live hb10).trans hb10.symm, (s11.live e3).trans e3.symm, ?_⟩
    have hrm := roomH_le h
    refine Run_spec (hvm10.mono s11) (ho.mono s11) hgood hrm.1 (by omega) (by omega) (by omega) (fun va vb g12 n12 s12 oa ob => ?_)
    have s912 := s10.trans (s11.trans s12)
    have hRl := runTx_len (roomH h) tx cm
    have hRt := runTx_tl (roomH h) tx cm
    have hR0 : (runTx (roomH h) tx cm).2 ≠ [] := by unfold runTx; simp
    have hRc := com_runTx (room := roomH h) (t := tx) (m := cm)
    have ho16 := hgood.1
    obtain ⟨hTl, hGl⟩ := toldH_lens (h := h) (c := b.1) (xs := xs) (k := k)
    rw [hgd2, hkt] at hres
    generalize runTx (roomH h) tx cm = rr at oa ob hres hRl hRt hR0 hRc
    obtain ⟨ra, rb⟩ := rr
    simp only at oa ob hres hRl hRt hR0 hRc
    refine kEx (vs := [va, vb, .int .i64 0]) rfl (kEx (vs := [va, vb, .int .i64 0]) rfl (kEx (vs := [va, vb, .int .i64 0]) rfl ?_))
    have hb12 : g12 l4 = some (.cells (encH h) .exact) := (sB9.trans s912).live hb4
    have hb15 : g12 n9 = some (.cells (encJ b) .exact) := (s11.trans s12).live hb10
    have hra0 : ra ≠ [] := fun e => by rw [e] at hRl; simp at hRl; omega
    have hrb0 : 0 < rb.length := by rcases rb with _ | _; exact absurd rfl hR0; simp
    -- what comes behind 'ended' and 'committed'
    have j4 : ∀ (t' : Env) (g13 : G) (n13 : Nat) (x : Bool), Sub g12 g13 → (x = true ↔ (bs0.drop (i + 1) ≠ [] ∨ ((toldH h b.1 xs).getD k []).length = rb.length)) → t' 95 = .bool (decide (com rb) && x) → t' 20 = .bool (decide (com rb)) → t' 16 = va → t' 14 = .int .i64 (i : Nat) → t' 39 = v38 → t' 40 = .int .i64 (bs0.length : Nat) → t' 41 = .int .i64 (i : Nat) → t' 13 = v38 → t' 12 = ptr l12 0 → t' 8 = ptr l8 0 → t' 2 = vt → t' 3 = vx → t' 4 = ptr l4 0 → crash_of_j4 AC K I t' g13 n13 := by
      intro t' g13 n13 x s13 hx q95 q20 q16 q14 q39 q40 q41 q13 q12 q8 q2 q3 q4
      have sX := s912.trans s13
      obtain ⟨hPX, hOX⟩ := hP.next sX
      have hvaX := hP.hidW sX hra0 (oa.mono s13)
      simp only [crash_of_j4, q95, q20, q16, q14, q41, q12, kPtr_p, kBin_add]
      rw [wrap64_of (by omega) (by omega), show ((i : Nat) : Int) + 1 = ((i + 1 : Nat) : Int) by omega]
      refine kSplit_c (fun hc1 => ?_) (fun hc1 => ?_)
      · rw [Bool.and_eq_true, decide_eq_true_eq] at hc1
        unfold pstL at hres
        rw [if_pos hc1.1, if_pos (by rw [steps_nil]; exact hx.1 hc1.2)] at hres
        refine kLd_of hPX.hb rfl ⟨rfl, by simp [reps], ?_⟩
        intro hn13
        refine hPX.one (i := (i : Int)) hn13 (by omega) (fun v' g' n' hP' => ?_)
        refine kSt_of hP'.hb rfl (by simp) oa.isCell ?_
        refine ih (mm - 1) _ _ _ (by omega) ⟨i + 1, v', va, vy, ss ++ [(i : Int)], ra, none, hid g13 l12 vs, by omega, q39, q40, rfl, q13, q12, q8, q2, q3, q4, hgB.trans hOX, hP'.set, hvaX, hvy.mono hOX, by omega, by simp; omega, by simp, hres⟩
      · refine kSplit_c (fun hc2 => ?_) (fun hc2 => ?_)
        · rw [decide_eq_true_eq] at hc2
          rw [decide_eq_true hc2, Bool.true_and] at hc1
          have hne : ¬ (bs0.drop (i + 1) ≠ [] ∨ ((toldH h b.1 xs).getD k []).length = rb.length) := fun hh => by rw [hx.2 hh] at hc1; cases hc1
          unfold pstL at hres
          rw [if_pos hc2, if_neg (by rw [steps_nil]; exact hne)] at hres
          refine kSt_of hPX.hb rfl (by simp) oa.isCell ?_
          refine ih (mm - 1) _ _ _ (by omega) ⟨i + 1, vs, vm, va, ss, cm, some ra, hid g13 l12 vs, by omega, q39, q40, rfl, q13, q12, q8, q2, q3, q4, hgB.trans hOX, hPX.set, hvm.mono hOX, ⟨hvaX, ?_⟩, hcl, by omega, fun _ => ?_, hres⟩
          · obtain ⟨l', c', bk', _, e', _⟩ := oa.blk1 hra0
            exact ⟨_, _, _, e'⟩
          · exact Classical.byContradiction fun hh => hne (.inl hh)
        · rw [decide_eq_false_iff_not] at hc2
          unfold pstL at hres
          rw [if_neg hc2, hRc hc2] at hres
          exact ih (mm - 1) _ _ _ (by omega) ⟨i + 1, vs, vm, vy, ss, cm, none, hid g13 l12 vs, by omega, q39, q40, rfl, q13, q12, q8, q2, q3, q4, hgB.trans hOX, hPX, hvm.mono hOX, hvy.mono hOX, hcl, by omega, by simp, hres⟩
    have j3 : ∀ (t' : Env) (g13 : G) (n13 : Nat) (x : Bool), Sub g12 g13 → (x = true ↔ (bs0.drop (i + 1) ≠ [] ∨ ((toldH h b.1 xs).getD k []).length = rb.length)) → t' 19 = .bool x → t' 17 = vb → t' 16 = va → t' 14 = .int .i64 (i : Nat) → t' 39 = v38 → t' 40 = .int .i64 (bs0.length : Nat) → t' 41 = .int .i64 (i : Nat) → t' 13 = v38 → t' 12 = ptr l12 0 → t' 8 = ptr l8 0 → t' 2 = vt → t' 3 = vx → t' 4 = ptr l4 0 → crash_of_j3 AC K I t' g13 n13 := by
      intro t' g13 n13 x s13 hx q19 q17 q16 q14 q39 q40 q41 q13 q12 q8 q2 q3 q4
      have ob := ob.mono s13
      have hlast : rb[rb.length - 1]? = some (rb.getD (rb.length - 1) 0) := by
        rw [List.getD_eq_getElem?_getD, List.getElem?_eq_getElem (by omega)]; rfl
      simp only [crash_of_j3, q17, q19]
      refine ob.sl.len ?_
      rw [kBin_sub, wrap64_of (by omega) (by omega), show ((rb.length : Nat) : Int) - 1 = ((rb.length - 1 : Nat) : Int) by omega]
      refine ob.sl.idx encW_len hlast (fun l o ha => ?_)
      rw [kPtr_p]
      refine ha.ld (i := 0) rfl ?_
      rw [kBin_eql]
      refine kSplit_d (fun hc => ?_) (fun hc => ?_)
      · refine j4 _ g13 n13 x s13 hx ?_ ?_ q16 q14 q39 q40 q41 q13 q12 q8 q2 q3 q4
        · show Value.bool x = _
          rw [decide_eq_true (show com rb from hc), Bool.true_and]
        · show Value.bool (decide _) = _
          rfl
      · refine j4 _ g13 n13 x s13 hx ?_ ?_ q16 q14 q39 q40 q41 q13 q12 q8 q2 q3 q4
        · show Value.bool false = _
          rw [decide_eq_false (show ¬ com rb from hc), Bool.false_and]
        · show Value.bool (decide _) = _
          rfl
    simp only [crash_of_j2]
    show kBin .int .neq (.int .i64 0) _ _
    rw [kBin_neq]
    refine kSplit_f (by simp) ?_
    show kLen (t 13) _
    rw [t13]
    refine (hB.mono (sB9.trans s912)).len ?_
    rw [kBin_sub, wrap64_of (by omega) (by omega)]
    show kBin .int .lss (.int .i64 ((i : Nat) : Int)) _ _
    rw [kBin_lss]
    refine kSplit_d (fun hl => ?_) (fun hl => ?_)
    · refine j3 _ g12 n12 true (Sub.refl _) ⟨fun _ => .inl ?_, fun _ => rfl⟩ rfl rfl rfl rfl t39 t40 t41 t13 t12 t8 t2 t3 t4
      intro e
      have := congrArg List.length e
      rw [List.length_drop] at this; simp at this; omega
    · have hnil : bs0.drop (i + 1) = [] := List.drop_eq_nil_of_le (by omega)
      show kPtr (t 4) _
      rw [t4, kPtr_p]
      refine ldH hb12 (kIA0 ?_)
      rw [kPtr_p]
      refine kLd_of hb15 e53 (kIA1 ?_)
      rw [kPtr_p]
      refine kLd_of hb15 e57 ?_
      refine ob.sl.len ?_
      show AC serial_Told_id [_, t 3, _] _ _ _
      rw [t3]
      refine Told_spec (hv.mono (sB9.trans s912)) hlen (fun v78 cs g13 n13 s13 hS f13 => ?_)
      refine ⟨(s13.live hb15).trans hb15.symm, ?_⟩
      rw [hc] at hb1
      refine SSget hS (by omega) (fun l o cg _ _ og hld => ?_)
      rw [kPtr_p]
      refine hld _ (og.sl.len ?_)
      rw [kBin_eql]
      refine j3 _ g13 n13 (decide ((((toldH h (c : Int) xs).getD k []).length : Int) = rb.length)) s13 ?_ rfl rfl rfl rfl t39 t40 t41 t13 t12 t8 t2 t3 t4
      rw [decide_eq_true_eq, hnil, hc]
      constructor
      · intro h; right; omega
      · rintro (h | h)
        · exact absurd rfl h
        · omega
  · have hje : bs0.drop i = [] := List.drop_eq_nil_of_le (by omega)
    rw [hje] at hres
    simp only [crash_of_j5]
    show kPtr (t 12) _
    rw [t12, kPtr_p]
    have hr : res = (ss, cm, my) := by
      cases my with
      | none => exact hres.symm
      | some y => exact hres.symm
    subst hr
    have h8O := hgB.live h8
    have := past_exit (n := n9) (K := K) (s0.trans hgB) h0 h8O hP hvm hvy hK
    show kLdN g9 l12 0 3 fun c113 => kPtr (t 8) fun l o => kAgg (.agg c113.toArray) fun cg => cg.length = 3 ∧ kStN g9 l o cg fun g' => kPtr (t 8) fun l o => kLdN g' l o 3 fun r0 => aRet K (.tuple #[(.agg r0.toArray), (.int .i64 0)]) g' n9
    rw [t8]
    exact this
end Go.Proofs.Ytldlimkjhppjbaa.Gen

namespace Go.Proofs.Ytldlimkjhppjbaa.Gen
open Go Go.Proofs.Ytldlimkjhppjbaa.Abs Go.RowKit
variable {g : G} {n : Nat}
theorem fillP1 {v : Value} (hc : Abs.isCell v = true) (K : List Value → Prop) (k : K [.slice none 0 0, v, .slice none 0 0]) : kFill zP [(1, none, v)] K := ⟨hc, by simp, k⟩
set_option maxHeartbeats 2000000 in
theorem of_spec29 {h : Hp} {xs : List Ev} {txs : List (List TxT)} {vm vt vx : Value} {m : List Int} (hm : Sl encW 1 g vm m) (hml : m.length ≤ 1000) (hT : SlR TsC 1 g vt txs) (hF : Fair27 txs) (hv : Sl encE 5 g vx xs) (hlen : xs.length < 1000000) {K : Cont}
    (hK : ∀ vs vm vy g' n', Sub g g' → PastR g' vs vm vy (ofR h m txs xs) → K (.tuple #[.agg ([vs, vm, vy] : List Value).toArray, .int .i64 (checkR h m txs xs).2]) g' n') : AC crash_of_id [.agg (encH h).toArray, vm, vt, vx] g n K := by
  refine ACalls.fold X0_mono ?_
  rw [← crash_of_eq]
  simp only [crash_of, kAgg_a]
  intro hn
  have s1 := (Sub.refl g).new hn (some (.cells (encH h) .exact))
  have hb1 : upd g n (some (.cells (encH h) .exact)) n = some (.cells (encH h) .exact) := upd_same _ _ _
  generalize upd g n (some (.cells (encH h) .exact)) = g1 at s1 hb1
  intro hn1
  have h0 : g (n + 1) = none := s1.none hn1
  have s2 := (Sub.refl g1).new hn1 (some (.cells zP .exact))
  have h82 : upd g1 (n + 1) (some (.cells zP .exact)) (n + 1) = some (.cells zP .exact) := upd_same _ _ _
  generalize upd g1 (n + 1) (some (.cells zP .exact)) = g2 at s2 h82
  have hb2 := s2.live hb1
  have s02 := s1.trans s2
  refine ldH hb2 (Check_spec (hm.mono s02) hml (hT.mono (fun c x h => TsC.mono s02 c x h) s02) hF (hv.mono s02) hlen fun g3 n3 s3 => ?_)
  have s03 := s02.trans s3
  refine kEx (vs := [.int .i64 (checkR h m txs xs).1, .int .i64 (checkR h m txs xs).2]) rfl (kEx (vs := [.int .i64 (checkR h m txs xs).1, .int .i64 (checkR h m txs xs).2]) rfl ?_)
  rw [kBin_neq]
  have hb3 := s3.live hb2
  have h83 := s3.live h82
  refine kSplit_d (fun hc => ?_) (fun hc => ?_)
  · rw [kFill_nil]
    refine ⟨rfl, kStN_of h83 rfl (by simp) (by simp; rfl) (kLdN_of (upd_same _ _ _) (by simp [splice]) (aRet_of (Sub.refl _) ?_))⟩
    unfold ofR at hK; rw [if_neg hc] at hK
    refine hK (.slice none 0 0) (.slice none 0 0) (.slice none 0 0) _ _ (fun l => ?_) PastR.nil
    by_cases e : l = n + 1
    · subst e; exact .inl h0
    · rw [upd_ne _ _ e]; exact s03 l
  have hc : (checkR h m txs xs).2 = 0 := Classical.byContradiction hc
  have hcond : (GoodH h ∧ (m.length : Int) = wordsH h ∧ (txs.length : Int) = h.cores) ∧ AllGood txs ∧ (chk h xs txs (begH h xs) 0 m).2 = 0 := by
    have hc := hc
    unfold checkR at hc
    split at hc
    · rename_i h1
      split at hc
      · rename_i h2; exact ⟨h1, h2, hc⟩
      · cases hc
    · cases hc
  obtain ⟨⟨hG, hW, hN⟩, hAG, hchk⟩ := hcond
  have hm0 : 0 < m.length := by
    unfold wordsH at hW; rw [if_pos hG] at hW
    obtain ⟨_, _, _, h3, _⟩ := hG
    omega
  have h10 := hF.1
  refine CloneW_spec (hm.mono s03) hm0 (by omega) (fun v34 g5 n5 s5 o34 f34 => ?_)
  have s05 := s03.trans s5
  refine fillP1 o34.isCell _ (fun hn5 => ?_)
  refine ⟨by simp [splice], kStN_of (upd_same _ _ _) rfl (by simp) (by simp [o34.isCell]; rfl) ?_⟩
  rw [upd_upd]
  have e1 : splice zP 0 ([.slice none 0 0, v34, .slice none 0 0] : List Value) = [.slice none 0 0, v34, .slice none 0 0] := by simp [splice]
  rw [e1]
  have s7 := (Sub.refl g5).new hn5 (some (.cells [.slice none 0 0, v34, .slice none 0 0] .exact))
  have hb7 : upd g5 n5 (some (.cells [.slice none 0 0, v34, .slice none 0 0] .exact)) n5 = some (.cells [.slice none 0 0, v34, .slice none 0 0] .exact) := upd_same _ _ _
  generalize upd g5 n5 (some (.cells [.slice none 0 0, v34, .slice none 0 0] .exact)) = g7 at s7 hb7
  refine ldH (s7.live (s5.live hb3)) (Begins_spec ((hv.mono s05).mono s7) hlen fun v38 g8 n8 s8 o38 f38 => ?_)
  have hbl := begH_len h xs
  refine o38.sl.len ?_
  have hP : Pst (upd g8 n5 none) g8 n5 (.slice none 0 0) [v34, .slice none 0 0] [] := ⟨fun l => by
    by_cases e : l = n5
    · subst e; exact .inl (upd_same _ _ _)
    · exact .inr (upd_ne _ _ e), upd_same _ _ _, by simp [blks, blkOf], by simp [blks, blkOf], fun _ => by simp [blks, blkOf], OwnS.nil, s8.live hb7⟩
  have s5P : Sub g5 (upd g8 n5 none) := fun l => by
    by_cases e : l = n5
    · subst e; exact .inl hn5
    · rw [upd_ne _ _ e]; exact (s7.trans s8) l
  have oP : OwnS encJ 2 none0 (upd g8 n5 none) v38 (begH h xs) := o38.keepB fun l b h1 h2 => by
    rw [upd_ne]; exact h1
    rintro rfl
    rw [f38 _ h2] at hb7; cases hb7
  have h8P := s5P.live (s5.live h83)
  have s0P := s05.trans s5P
  have hres : pstL (steps h xs txs (begH h xs) m) 0 [] m = ofR h m txs xs := by unfold ofR; rw [if_pos hc]
  rw [hc] at hK
  refine of_loop (h := h) (xs := xs) (txs := txs) (vx := vx) (m := m) (res := ofR h m txs xs) (bs0 := begH h xs) s0P h0 h8P (s5P.live (s5.live hb3)) (hT.mono (fun c x h => TsC.mono s0P c x h) s0P) oP.sl (hv.mono s0P) hAG begH_told (chk_in _ _ _ hchk) hlen (by omega) (by omega) hm0 hml hK (begH h xs).length _ g8 n8
    ⟨0, .slice none 0 0, v34, .slice none 0 0, [], m, none, upd g8 n5 none, by omega, rfl, rfl, rfl, rfl, rfl, rfl, rfl, rfl, rfl, Sub.refl _, hP, (o34.mono s5P).sl, rfl, rfl, by simp, by simp, ?_⟩
  rw [List.drop_zero]; exact hres
end Go.Proofs.Ytldlimkjhppjbaa.Gen

namespace Go.Proofs.Ytldlimkjhppjbaa.Gen
open Go Go.Proofs.Ytldlimkjhppjbaa.Abs Go.RowKit
variable {g : G} {n : Nat}
theorem kBin_sneqn {m c : Nat} {K : Value → Prop} : kBin .slice .neq (.slice none m c) (.slice none 0 0) K = K (.bool false) := rfl
theorem kBin_sneqs {a : Addr} {m c : Nat} {K : Value → Prop} : kBin .slice .neq (.slice (some a) m c) (.slice none 0 0) K = K (.bool true) := rfl
theorem putP {vs vm vy : Value} {p : PastT} {K : G → Prop} (h : PastR g vs vm vy p) (hn : g n = none)
    (hK : ∀ g', Sub g g' → g' n = some (.cells [vs, vm, vy] .exact) → K g') : ([vs, vm, vy] : List Value).length = 3 ∧ kStN (upd g n (some (.cells zP .exact))) n 0 [vs, vm, vy] K := by
  refine ⟨rfl, kStN_of (upd_same _ _ _) rfl (by simp) (by simp [Sl.isCell h.s, Sl.isCell h.m, h.y.isCell]) ?_⟩
  rw [upd_upd]
  exact hK _ ((Sub.refl g).new hn _) (upd_same _ _ _)
set_option maxHeartbeats 1000000 in
theorem Sure_spec29 {h : Hp} {xs : List Ev} {txs : List (List TxT)} {vm vt vx : Value} {m : List Int} (hm : Sl encW 1 g vm m) (hml : m.length ≤ 1000) (hT : SlR TsC 1 g vt txs) (hF : Fair27 txs) (hv : Sl encE 5 g vx xs) (hlen : xs.length < 1000000) {K : Cont}
    (hK : ∀ vs g' n', Sub g g' → Sl encZ 1 g' vs (ofR h m txs xs).1 → Cap vs 1 → K (.tuple #[vs, .int .i64 (checkR h m txs xs).2]) g' n') : AC crash_Sure_id [.agg (encH h).toArray, vm, vt, vx] g n K := by
  refine ACalls.fold X0_mono ?_
  rw [← crash_Sure_eq]
  simp only [crash_Sure, kAgg_a]
  intro hn
  have s1 := (Sub.refl g).new hn (some (.cells (encH h) .exact))
  have hb1 : upd g n (some (.cells (encH h) .exact)) n = some (.cells (encH h) .exact) := upd_same _ _ _
  generalize upd g n (some (.cells (encH h) .exact)) = g1 at s1 hb1
  refine ldH hb1 (of_spec29 (hm.mono s1) hml (hT.mono (fun c x h => TsC.mono s1 c x h) s1) hF (hv.mono s1) hlen fun vs vm' vy g2 n2 s2 hP => ?_)
  refine kEx (vs := [.agg ([vs, vm', vy] : List Value).toArray, .int .i64 (checkR h m txs xs).2]) rfl (kEx (vs := [.agg ([vs, vm', vy] : List Value).toArray, .int .i64 (checkR h m txs xs).2]) rfl (fun hn2 => ?_))
  show kAgg _ _
  rw [kAgg_a]
  refine putP hP hn2 (fun g3 s3 hb3 => ?_)
  refine kLd_of hb3 rfl (aRet_of (Sub.refl _) (hK _ _ _ (s1.trans (s2.trans s3)) (hP.s.mono s3) hP.c))
def MapC (g : G) (c : List Value) (x : List Int) : Prop := ∃ v, c = [v] ∧ Sl encW 1 g v x
theorem MapC.mono {g' : G} (s : Sub g g') (c : List Value) (x : List Int) (h : MapC g c x) : MapC g' c x := by
  obtain ⟨v, rfl, h⟩ := h; exact ⟨v, rfl, h.mono s⟩
theorem fillM2 {a b : Value} (ha : Abs.isCell a = true) (hb : Abs.isCell b = true) (K : List Value → Prop) (k : K [a, b]) : kFill (reps 2 [(.slice none 0 0)]) [(0, none, a), (1, none, b)] K := ⟨ha, by simp [reps], hb, by simp [reps], k⟩
theorem fillM1 {a : Value} (ha : Abs.isCell a = true) (K : List Value → Prop) (k : K [a]) : kFill (reps 1 [(.slice none 0 0)]) [(0, none, a)] K := ⟨ha, by simp [reps], k⟩
theorem maps1 {l : Nat} {a : Value} {x : List Int} (hb : g l = some (.cells [a] .exact)) (h : Sl encW 1 g a x) : SlR MapC 1 g (.slice (some ⟨l, 0, none⟩) 1 1) [x] := by
  refine ⟨[[a]], Rd.lit hb rfl, rfl, fun i c y hc hy => ?_⟩
  cases i with
  | zero => simp at hc hy; subst hc; subst hy; exact ⟨rfl, a, rfl, h⟩
  | succ i => simp at hc
theorem maps2 {l : Nat} {a b : Value} {x y : List Int} (hb : g l = some (.cells [a, b] .exact)) (h : Sl encW 1 g a x) (h2 : Sl encW 1 g b y) : SlR MapC 1 g (.slice (some ⟨l, 0, none⟩) 2 2) [x, y] := by
  refine ⟨[[a], [b]], Rd.lit hb rfl, rfl, fun i c z hc hz => ?_⟩
  cases i with
  | zero => simp at hc hz; subst hc; subst hz; exact ⟨rfl, a, rfl, h⟩
  | succ i => cases i with
    | zero => simp at hc hz; subst hc; subst hz; exact ⟨rfl, b, rfl, h2⟩
    | succ i => simp at hc
theorem maps0 : SlR MapC 1 g (.slice none 0 0) [] := ⟨[], Rd.nil _, rfl, by simp⟩
set_option maxHeartbeats 1000000 in
theorem May_spec29 {h : Hp} {xs : List Ev} {txs : List (List TxT)} {vm vt vx : Value} {m : List Int} (hm : Sl encW 1 g vm m) (hml : m.length ≤ 1000) (hT : SlR TsC 1 g vt txs) (hF : Fair27 txs) (hv : Sl encE 5 g vx xs) (hlen : xs.length < 1000000) {K : Cont}
    (hK : ∀ va g' n', Sub g g' → SlR MapC 1 g' va (mapsR h m txs xs) → K (.tuple #[va, .int .i64 (checkR h m txs xs).2]) g' n') : AC crash_May_id [.agg (encH h).toArray, vm, vt, vx] g n K := by
  refine ACalls.fold X0_mono ?_
  rw [← crash_May_eq]
  simp only [crash_May, kAgg_a]
  intro hn
  have s1 := (Sub.refl g).new hn (some (.cells (encH h) .exact))
  have hb1 : upd g n (some (.cells (encH h) .exact)) n = some (.cells (encH h) .exact) := upd_same _ _ _
  generalize upd g n (some (.cells (encH h) .exact)) = g1 at s1 hb1
  refine ldH hb1 (of_spec29 (hm.mono s1) hml (hT.mono (fun c x h => TsC.mono s1 c x h) s1) hF (hv.mono s1) hlen fun vs vm' vy g2 n2 s2 hP => ?_)
  refine kEx (vs := [.agg ([vs, vm', vy] : List Value).toArray, .int .i64 (checkR h m txs xs).2]) rfl (kEx (vs := [.agg ([vs, vm', vy] : List Value).toArray, .int .i64 (checkR h m txs xs).2]) rfl (fun hn2 => ?_))
  show kAgg _ _
  rw [kAgg_a]
  refine putP hP hn2 (fun g3 s3 hb3 => ?_)
  have hP3 := hP.mono s3
  have s03 := s1.trans (s2.trans s3)
  rw [kBin_neq]
  unfold mapsR at hK
  refine kSplit_d (fun hc => ?_) (fun hc => ?_)
  · rw [if_neg hc] at hK
    exact aRet_of (Sub.refl _) (hK _ _ _ s03 maps0)
  have hc : (checkR h m txs xs).2 = 0 := Classical.byContradiction hc
  rw [if_pos hc, hc] at hK
  refine kLd_of hb3 rfl ?_
  generalize ofR h m txs xs = p at hP3 hK
  obtain ⟨ps, pm, py⟩ := p
  obtain ⟨_, hm3, hy3, _⟩ := hP3
  simp only at hm3 hy3 hK
  cases py with
  | none =>
    have e : vy = .slice none 0 0 := hy3
    subst e
    rw [kBin_sneqn]
    refine kSplit_f rfl (kLd_of hb3 rfl (fillM1 (Sl.isCell hm3) _ (fun hn4 => ?_)))
    have s4 := (Sub.refl g3).new hn4 (some (.cells [vm'] .exact))
    exact aRet_of (Sub.refl _) (hK _ _ _ (s03.trans s4) (maps1 (upd_same _ _ _) (hm3.mono s4)))
  | some y =>
    obtain ⟨hy4, a, k, c, rfl⟩ := hy3
    rw [kBin_sneqs]
    refine kSplit_t rfl (kLd_of hb3 rfl (kLd_of hb3 rfl (fillM2 (Sl.isCell hm3) (Sl.isCell hy4) _ (fun hn4 => ?_))))
    have s4 := (Sub.refl g3).new hn4 (some (.cells [vm', .slice (some a) k c] .exact))
    exact aRet_of (Sub.refl _) (hK _ _ _ (s03.trans s4) (maps2 (upd_same _ _ _) (hm3.mono s4) (hy4.mono s4)))
theorem same_spec {l5 l3 : Nat} {w v : Value} {left x : List Int} (h5 : g l5 = some (.cells [.func (.func slices_Equal_uint64_uint64_id) #[] #[]] .exact)) (h3 : g l3 = some (.cells [w] .exact)) (hw : Sl encW 1 g w left) (hv : Sl encW 1 g v x) (hlen : left.length < 1000000) {K : Cont}
    (hK : ∀ n', K (.bool (decide (left = x))) g n') : AC crash_among_uint64_1_id [v, ptr l5 0, ptr l3 0] g n K := by
  refine ACalls.fold X0_mono ?_
  rw [← crash_among_uint64_1_eq]
  simp only [crash_among_uint64_1, kPtr_p]
  refine kLd_of h5 rfl (kLd_of h3 rfl ?_)
  show AC slices_Equal_uint64_uint64_id [w, v] g n _
  exact EqualW_spec hw hv hlen fun n' => aRet_of (Sub.refl _) (hK n')
theorem indexF_spec {l5 l3 : Nat} {w v : Value} {left : List Int} {ms : List (List Int)} (h5 : g l5 = some (.cells [.func (.func slices_Equal_uint64_uint64_id) #[] #[]] .exact)) (h3 : g l3 = some (.cells [w] .exact)) (hw : Sl encW 1 g w left) (hv : SlR MapC 1 g v ms) (hlen : left.length < 1000000) (hml : ms.length < 1000000) {K : Cont}
    (hK : ∀ (r : Int) n', (0 ≤ r ↔ left ∈ ms) → K (.int .i64 r) g n') : AC slices_IndexFunc_uint64_uint64_id [v, .func (.func crash_among_uint64_1_id) #[] #[ptr l5 0, ptr l3 0]] g n K := by
  refine ACalls.fold X0_mono ?_
  rw [← slices_IndexFunc_uint64_uint64_eq]
  simp only [slices_IndexFunc_uint64_uint64]
  refine hv.len ?_
  refine lfp_ind (m := ms.length) (Inv := fun m t g2 n2 => ∃ j : Nat, m + j = ms.length ∧ g2 = g ∧ t 0 = v ∧ t 1 = .func (.func crash_among_uint64_1_id) #[] #[ptr l5 0, ptr l3 0] ∧ t 7 = .int .i64 (ms.length : Nat) ∧ t 8 = .int .i64 (j : Nat) ∧ left ∉ ms.take j) ?_ ⟨0, by omega, rfl, rfl, rfl, rfl, rfl, by simp⟩
  rintro I m t g2 n2 ih ⟨j, hm, rfl, t0, t1, t7, t8, hall⟩
  simp only [slices_IndexFunc_uint64_uint64_l1, t0, t1, t7, t8, kBin_lss]
  refine kSplit_d (fun hj => ?_) (fun hj => ?_)
  · have hj : j < ms.length := by omega
    have hget : ms[j]? = some ms[j] := List.getElem?_eq_getElem hj
    generalize ms[j] = x at hget
    refine hv.idx hget (fun l o c ha hc hx => ?_)
    obtain ⟨vr, rfl, hr⟩ := hx
    rw [kPtr_p]
    refine ha.ld (i := 0) rfl ?_
    show AC crash_among_uint64_1_id [vr, ptr l5 0, ptr l3 0] _ _ _
    refine same_spec h5 h3 hw hr hlen (fun n' => ?_)
    refine kSplit_d (fun he => ?_) (fun he => ?_)
    · subst he
      exact aRet_of (Sub.refl _) (hK _ _ ⟨fun _ => List.mem_of_getElem? hget, fun _ => by omega⟩)
    · rw [kBin_add, wrap64_of (by omega) (by omega), show ((j : Nat) : Int) + 1 = ((j + 1 : Nat) : Int) by omega]
      refine ih (m - 1) _ _ _ (by omega) ⟨j + 1, by omega, rfl, t0, t1, t7, rfl, fun hx => ?_⟩
      rw [take_add hget] at hx
      rcases List.mem_append.1 hx with hx | hx
      · exact hall hx
      · simp at hx; exact he hx
  · rw [List.take_of_length_le (by omega)] at hall
    exact aRet_of (Sub.refl _) (hK _ _ ⟨(fun h => by omega), fun h => absurd h hall⟩)
theorem among_spec {w v : Value} {left : List Int} {ms : List (List Int)} (hw : Sl encW 1 g w left) (hv : SlR MapC 1 g v ms) (hlen : left.length < 1000000) (hml : ms.length < 1000000) {K : Cont}
    (hK : ∀ g' n', Sub g g' → K (.bool (decide (left ∈ ms))) g' n') : AC crash_among_uint64_id [w, v, .func (.func slices_Equal_uint64_uint64_id) #[] #[]] g n K := by
  refine ACalls.fold X0_mono ?_
  rw [← crash_among_uint64_eq]
  simp only [crash_among_uint64]
  refine ⟨Sl.isCell hw, fun hn => ⟨rfl, fun hn1 => ?_⟩⟩
  have s1 := (Sub.refl g).new hn (some (.cells [w] .exact))
  have hb1 : upd g n (some (.cells [w] .exact)) n = some (.cells [w] .exact) := upd_same _ _ _
  generalize upd g n (some (.cells [w] .exact)) = g1 at s1 hb1 hn1
  have s2 := (Sub.refl g1).new hn1 (some (.cells [.func (.func slices_Equal_uint64_uint64_id) #[] #[]] .exact))
  have hb2 : upd g1 (n + 1) (some (.cells [.func (.func slices_Equal_uint64_uint64_id) #[] #[]] .exact)) (n + 1) = some (.cells [.func (.func slices_Equal_uint64_uint64_id) #[] #[]] .exact) := upd_same _ _ _
  generalize upd g1 (n + 1) (some (.cells [.func (.func slices_Equal_uint64_uint64_id) #[] #[]] .exact)) = g2 at s2 hb2
  have s02 := s1.trans s2
  refine ACalls.fold X0_mono ?_
  rw [← slices_ContainsFunc_uint64_uint64_eq]
  simp only [slices_ContainsFunc_uint64_uint64]
  refine indexF_spec hb2 (s2.live hb1) (hw.mono s02) (hv.mono (fun c x h => MapC.mono s02 c x h) s02) hlen hml (fun r n' hr => ?_)
  rw [kBin_geq]
  refine aRet_of (Sub.refl _) (aRet_of (Sub.refl _) ?_)
  have := hK g2 n' s02
  rwa [show decide (0 ≤ r) = decide (left ∈ ms) by rw [Bool.eq_iff_iff]; simp [hr]]
theorem mapsR_len {h : Hp} {xs : List Ev} {txs : List (List TxT)} {m : List Int} : (mapsR h m txs xs).length ≤ 2 := by
  unfold mapsR
  split
  · split <;> simp
  · simp
set_option maxHeartbeats 1000000 in
theorem Check_spec29 {h : Hp} {xs : List Ev} {txs : List (List TxT)} {vm vt vx vl : Value} {m left : List Int} (hm : Sl encW 1 g vm m) (hml : m.length ≤ 1000) (hT : SlR TsC 1 g vt txs) (hF : Fair27 txs) (hv : Sl encE 5 g vx xs) (hlen : xs.length < 1000000) (hl : Sl encW 1 g vl left) (hll : left.length < 1000000) {K : Cont}
    (hK : ∀ g' n', Sub g g' → K (.bool (decide (left ∈ mapsR h m txs xs))) g' n') : AC crash_Check_id [.agg (encH h).toArray, vm, vt, vx, vl] g n K := by
  refine ACalls.fold X0_mono ?_
  rw [← crash_Check_eq]
  simp only [crash_Check, kAgg_a]
  intro hn
  have s1 := (Sub.refl g).new hn (some (.cells (encH h) .exact))
  have hb1 : upd g n (some (.cells (encH h) .exact)) n = some (.cells (encH h) .exact) := upd_same _ _ _
  generalize upd g n (some (.cells (encH h) .exact)) = g1 at s1 hb1
  refine ldH hb1 (May_spec29 (hm.mono s1) hml (hT.mono (fun c x h => TsC.mono s1 c x h) s1) hF (hv.mono s1) hlen fun va g2 n2 s2 hP => ?_)
  refine kEx (vs := [va, .int .i64 (checkR h m txs xs).2]) rfl (kEx (vs := [va, .int .i64 (checkR h m txs xs).2]) rfl ?_)
  have s02 := s1.trans s2
  have hl2 := mapsR_len (h := h) (m := m) (txs := txs) (xs := xs)
  rw [kBin_eql]
  refine kSplit_d (fun hc => ?_) (fun hc => ?_)
  · exact among_spec (hl.mono s02) hP hll (by omega) (fun g3 n3 s3 => aRet_of (Sub.refl _) (hK _ _ (s02.trans s3)))
  · refine aRet_of (Sub.refl _) ?_
    have := hK g2 n2 s02
    rwa [show decide (left ∈ mapsR h m txs xs) = false by unfold mapsR; rw [if_neg hc]; simp] at this
end Go.Proofs.Ytldlimkjhppjbaa.Gen

namespace Go.Proofs.Ytldlimkjhppjbaa.Gen
open Go Go.Proofs.Ytldlimkjhppjbaa.Abs Go.RowKit
variable {g : G} {n : Nat}
def hP22 : Hp := ⟨2, 5, 1, 1, 2, 2, 2, 2, 1⟩
def m029 : List Int := [0, 0, 0, 0, 0, 0, 0, 0]
def m929 : List Int := [0, 0, 9, 0, 0, 0, 0, 0]
def m529 : List Int := [5, 0, 0, 0, 0, 0, 0, 0]
def e29 : List Ev := [⟨4, 1, 0, 0, 0⟩]
def t29 : List (List TxT) := [[], [⟨[⟨2, 2, 9⟩], false⟩]]
theorem w29a : (checkR hP22 m029 t29 e29).2 = 0 := by decide
theorem w29b : ofR hP22 m029 t29 e29 = ([], m029, some m929) := by decide
theorem w29c : mapsR hP22 m029 t29 e29 = [m029, m929] := by unfold mapsR; rw [w29b, if_pos w29a]
theorem Plain22_spec {K : Cont} (hK : ∀ n', K (.agg (encH hP22).toArray) g n') : AC bellowslaw22_Plain_id [] g n K := AC_ev (.agg (encH hP22).toArray) 100 100 rfl rfl (by kernel_rfl) hK
theorem fair29 : Fair27 t29 := by decide
theorem fE29 (K : List Value → Prop) (k : K [.int .i64 4, .int .i64 1, .int .i64 0, .int .i64 0, .int .u64 0]) : kFill [(.int .i64 0), (.int .i64 0), (.int .i64 0), (.int .i64 0), (.int .u64 0)] [(0, none, (.int .i64 4)), (1, none, (.int .i64 1))] K := ⟨rfl, by simp, rfl, by simp, k⟩
theorem fE29b (K : List Value → Prop) (k : K [.int .i64 4, .int .i64 1, .int .i64 0, .int .i64 0, .int .u64 0]) : kFill (reps 1 [(.int .i64 0), (.int .i64 0), (.int .i64 0), (.int .i64 0), (.int .u64 0)]) [(0, (some 5), (.agg ([.int .i64 4, .int .i64 1, .int .i64 0, .int .i64 0, .int .u64 0] : List Value).toArray))] K := ⟨rfl, by simp [reps], k⟩
theorem fO29 (K : List Value → Prop) (k : K [.int .i64 2, .int .i64 2, .int .u64 9]) : kFill [(.int .i64 0), (.int .i64 0), (.int .u64 0)] [(0, none, (.int .i64 2)), (1, none, (.int .i64 2)), (2, none, (.int .u64 9))] K := ⟨rfl, by simp, rfl, by simp, rfl, by simp, k⟩
theorem fO29b (K : List Value → Prop) (k : K [.int .i64 2, .int .i64 2, .int .u64 9]) : kFill (reps 1 [(.int .i64 0), (.int .i64 0), (.int .u64 0)]) [(0, (some 3), (.agg ([.int .i64 2, .int .i64 2, .int .u64 9] : List Value).toArray))] K := ⟨rfl, by simp [reps], k⟩
theorem fT29 {v : Value} (hc : isCell v = true) (K : List Value → Prop) (k : K [v, .bool false]) : kFill [(.slice none 0 0), (.bool false)] [(0, none, v)] K := ⟨hc, by simp, k⟩
theorem fillM2' {b : Value} (hb : Abs.isCell b = true) (K : List Value → Prop) (k : K [.slice none 0 0, b]) : kFill (reps 2 [(.slice none 0 0)]) [(0, none, .slice none 0 0), (1, none, b)] K := ⟨rfl, by simp [reps], hb, by simp [reps], k⟩
theorem f829 (K : List Value → Prop) (k : K ((m529.map encW).flatten)) : kFill (reps 8 [(.int .u64 0)]) [(0, none, (.int .u64 5)), (1, none, (.int .u64 0)), (2, none, (.int .u64 0)), (3, none, (.int .u64 0)), (4, none, (.int .u64 0)), (5, none, (.int .u64 0)), (6, none, (.int .u64 0)), (7, none, (.int .u64 0))] K :=
  ⟨rfl, by decide, rfl, by decide, rfl, by decide, rfl, by decide, rfl, by decide, rfl, by decide, rfl, by decide, rfl, by decide, k⟩
theorem slLit {α : Type} {enc : α → List Value} {z l k : Nat} {xs : List α} (hz : ∀ x, (enc x).length = z) (hk : xs.length = k) (h : g l = some (.cells (xs.map enc).flatten .exact)) : Sl enc z g (.slice (some ⟨l, 0, none⟩) k k) xs := by
  subst hk
  refine Rd.lit h ?_
  clear h
  induction xs with
  | nil => simp
  | cons a r ih => simp only [List.map_cons, List.flatten_cons, List.length_append, hz, ih, List.length_cons, Nat.add_mul]; omega
theorem rowLit1 {α : Type} {R : G → List Value → α → Prop} {z l : Nat} {c : List Value} {x : α} (hz : c.length = z) (h : g l = some (.cells c .exact)) (hR : R g c x) : SlR R z g (.slice (some ⟨l, 0, none⟩) 1 1) [x] := by
  refine ⟨[c], by simpa using (Rd.lit h (by omega) : Rd g (.slice (some ⟨l, 0, none⟩) 1 1) z 1 c), rfl, fun i c' x' hc hx => ?_⟩
  cases i with
  | zero => simp at hc hx; subst hc; subst hx; exact ⟨hz, hR⟩
  | succ i => simp at hc
theorem rowLit2 {α : Type} {R : G → List Value → α → Prop} {l : Nat} {a b : Value} {x y : α} (h : g l = some (.cells [a, b] .exact)) (hR : R g [a] x) (hR2 : R g [b] y) : SlR R 1 g (.slice (some ⟨l, 0, none⟩) 2 2) [x, y] := by
  refine ⟨[[a], [b]], Rd.lit h rfl, rfl, fun i c z hc hz => ?_⟩
  cases i with
  | zero => simp at hc hz; subst hc; subst hz; exact ⟨rfl, hR⟩
  | succ i => cases i with
    | zero => simp at hc hz; subst hc; subst hz; exact ⟨rfl, hR2⟩
    | succ i => simp at hc
theorem slR0 {α : Type} {R : G → List Value → α → Prop} {z : Nat} : SlR R z g (.slice none 0 0) ([] : List α) := ⟨[], Rd.nil _, rfl, by simp⟩
set_option maxHeartbeats 4000000 in
theorem wakes29 {K : Cont} (hK : ∀ g' n', K (.bool true) g' n') : AC bellowslaw29_wakes_id [] g n K := by
  refine ACalls.fold X0_mono ?_
  rw [← bellowslaw29_wakes_eq]
  simp only [bellowslaw29_wakes]
  refine fE29 _ (fE29b _ (fun hn => ?_))
  have s1 := (Sub.refl g).new hn (some (.cells [.int .i64 4, .int .i64 1, .int .i64 0, .int .i64 0, .int .u64 0] .exact))
  have b1 : upd g n (some (.cells [.int .i64 4, .int .i64 1, .int .i64 0, .int .i64 0, .int .u64 0] .exact)) n = some (.cells [.int .i64 4, .int .i64 1, .int .i64 0, .int .i64 0, .int .u64 0] .exact) := upd_same _ _ _
  have hE : Sl encE 5 _ (.slice (some ⟨n, 0, none⟩) 1 1) e29 := slLit (enc := encE) encE_len rfl b1
  generalize upd g n (some (.cells [.int .i64 4, .int .i64 1, .int .i64 0, .int .i64 0, .int .u64 0] .exact)) = g1 at s1 hE
  refine fO29 _ (fO29b _ (fun hn1 => ?_))
  have s2 := (Sub.refl g1).new hn1 (some (.cells [.int .i64 2, .int .i64 2, .int .u64 9] .exact))
  have b2 : upd g1 (n + 1) (some (.cells [.int .i64 2, .int .i64 2, .int .u64 9] .exact)) (n + 1) = some (.cells [.int .i64 2, .int .i64 2, .int .u64 9] .exact) := upd_same _ _ _
  have hO : Sl encO 3 _ (.slice (some ⟨n + 1, 0, none⟩) 1 1) [⟨2, 2, 9⟩] := slLit (enc := encO) encO_len rfl b2
  generalize upd g1 (n + 1) (some (.cells [.int .i64 2, .int .i64 2, .int .u64 9] .exact)) = g2 at s2 hO
  refine fT29 rfl _ (fillTx1 _ (fun hn2 => ?_))
  have s3 := (Sub.refl g2).new hn2 (some (.cells [.slice (some ⟨n + 1, 0, none⟩) 1 1, .bool false] .exact))
  have b3 : upd g2 (n + 1 + 1) (some (.cells [.slice (some ⟨n + 1, 0, none⟩) 1 1, .bool false] .exact)) (n + 1 + 1) = some (.cells [.slice (some ⟨n + 1, 0, none⟩) 1 1, .bool false] .exact) := upd_same _ _ _
  have hT : SlR TxC 2 _ (.slice (some ⟨n + 1 + 1, 0, none⟩) 1 1) [⟨[⟨2, 2, 9⟩], false⟩] := rowLit1 rfl b3 ⟨_, rfl, hO.mono s3⟩
  generalize upd g2 (n + 1 + 1) (some (.cells [.slice (some ⟨n + 1, 0, none⟩) 1 1, .bool false] .exact)) = g3 at s3 hT
  refine fillM2' rfl _ (fun hn3 => ?_)
  have s4 := (Sub.refl g3).new hn3 (some (.cells [.slice none 0 0, .slice (some ⟨n + 1 + 1, 0, none⟩) 1 1] .exact))
  have b4 : upd g3 (n + 1 + 1 + 1) (some (.cells [.slice none 0 0, .slice (some ⟨n + 1 + 1, 0, none⟩) 1 1] .exact)) (n + 1 + 1 + 1) = some (.cells [.slice none 0 0, .slice (some ⟨n + 1 + 1, 0, none⟩) 1 1] .exact) := upd_same _ _ _
  have hTT : SlR TsC 1 _ (.slice (some ⟨n + 1 + 1 + 1, 0, none⟩) 2 2) t29 := rowLit2 b4 ⟨_, rfl, slR0⟩ ⟨_, rfl, hT.mono (fun c x h => TxC.mono s4 c x h) s4⟩
  generalize upd g3 (n + 1 + 1 + 1) (some (.cells [.slice none 0 0, .slice (some ⟨n + 1 + 1, 0, none⟩) 1 1] .exact)) = g4 at s4 hTT
  refine ⟨by decide, by decide, by decide, by decide, fun hn4 => ?_⟩
  have s5 := (Sub.refl g4).new hn4 (some (.cells ((m029.map encW).flatten) .exact))
  have b5 : upd g4 (n + 1 + 1 + 1 + 1) (some (.cells ((m029.map encW).flatten) .exact)) (n + 1 + 1 + 1 + 1) = some (.cells ((m029.map encW).flatten) .exact) := upd_same _ _ _
  have hM : Sl encW 1 _ (.slice (some ⟨n + 1 + 1 + 1 + 1, 0, none⟩) 8 8) m029 := slLit encW_len rfl b5
  show AC bellowslaw22_Plain_id [] (upd g4 (n + 1 + 1 + 1 + 1) (some (.cells ((m029.map encW).flatten) .exact))) _ _
  generalize upd g4 (n + 1 + 1 + 1 + 1) (some (.cells ((m029.map encW).flatten) .exact)) = g5 at s5 hM
  have hE5 := hE.mono (s2.trans (s3.trans (s4.trans s5)))
  have hT5 := hTT.mono (fun c x h => TsC.mono s5 c x h) s5
  clear hE hO hT hTT
  refine Plain22_spec fun n6 => ?_
  refine May_spec29 (h := hP22) hM (by decide) hT5 fair29 hE5 (by decide) (fun va g6 n7 s6 hA => ?_)
  rw [w29c] at hA
  rw [w29a]
  refine kEx (vs := [va, .int .i64 0]) rfl (kEx (vs := [va, .int .i64 0]) rfl (Plain22_spec fun n8 => ?_))
  have mT : ∀ {g' : G}, Sub g5 g' → SlR TsC 1 g' (.slice (some ⟨n + 1 + 1 + 1, 0, none⟩) 2 2) t29 := fun s => hT5.mono (fun c x h => TsC.mono s c x h) s
  refine Sure_spec29 (h := hP22) (hM.mono s6) (by decide) (mT s6) fair29 (hE5.mono s6) (by decide) (fun vs g7 n9 s7 hS _ => ?_)
  rw [w29b] at hS
  rw [w29a]
  have s67 := s6.trans s7
  have hA7 := hA.mono (fun c x h => MapC.mono s7 c x h) s7
  refine kEx (vs := [vs, .int .i64 0]) rfl (kEx (vs := [vs, .int .i64 0]) rfl ?_)
  rw [kBin_neq]
  refine kSplit_f (by simp) ?_
  rw [kBin_neq]
  refine kSplit_f (by simp) (hA7.len ?_)
  rw [kBin_neq]
  refine kSplit_f (by simp) (SlR.idx (j := 1) hA7 rfl (fun l o c ha hc hx => ?_))
  obtain ⟨vr, rfl, hr⟩ := hx
  rw [kPtr_p]
  refine ha.ld (i := 0) rfl (hr.len ?_)
  rw [kBin_neq]
  refine kSplit_f (by simp [m929]) (SlR.idx (j := 1) hA7 rfl (fun l o c ha hc hx => ?_))
  obtain ⟨vr, rfl, hr⟩ := hx
  rw [kPtr_p]
  refine ha.ld (i := 0) rfl (hr.idx (j := 2) (x := 9) encW_len rfl (fun l o ha => ?_))
  rw [kPtr_p]
  refine ha.ld (i := 0) rfl ?_
  rw [kBin_neq]
  refine kSplit_f (by simp) (hS.len ?_)
  rw [kBin_neq]
  refine kSplit_f (by simp) (Plain22_spec fun n10 => ?_)
  refine Check_spec29 (h := hP22) (hM.mono s67) (by decide) (mT s67) fair29 (hE5.mono s67) (by decide) (hM.mono s67) (by decide) (fun g8 n11 s8 => ?_)
  have s68 := s67.trans s8
  refine kSplit_t (by rw [w29c]; decide) ?_
  have hA8 := hA7.mono (fun c x h => MapC.mono s8 c x h) s8
  refine SlR.idx (j := 1) hA8 rfl (fun l o c ha hc hx => ?_)
  obtain ⟨vr, rfl, hr⟩ := hx
  rw [kPtr_p]
  refine ha.ld (i := 0) rfl (Plain22_spec fun n12 => ⟨rfl, ?_⟩)
  refine Check_spec29 (h := hP22) (hM.mono s68) (by decide) (mT s68) fair29 (hE5.mono s68) (by decide) hr (by decide) (fun g9 n13 s9 => ?_)
  have s69 := s68.trans s9
  refine kSplit_t (by rw [w29c]; decide) ⟨?_, ?_⟩
  · refine Plain22_spec fun n14 => f829 _ (fun hn14 => ?_)
    have s10 := (Sub.refl g9).new hn14 (some (.cells ((m529.map encW).flatten) .exact))
    have b10 : upd g9 n14 (some (.cells ((m529.map encW).flatten) .exact)) n14 = some (.cells ((m529.map encW).flatten) .exact) := upd_same _ _ _
    have s60 := s69.trans s10
    refine Check_spec29 (h := hP22) (hM.mono s60) (by decide) (mT s60) fair29 (hE5.mono s60) (by decide) (slLit (xs := m529) encW_len rfl b10) (by decide) (fun g11 n15 s11 => ?_)
    rw [w29c, kUn_not]
    exact aRet_of (Sub.refl _) (hK _ _)
  · refine f829 _ (fun hn14 => Plain22_spec fun n14 => ?_)
    have s10 := (Sub.refl g9).new hn14 (some (.cells ((m529.map encW).flatten) .exact))
    have b10 : upd g9 n13 (some (.cells ((m529.map encW).flatten) .exact)) n13 = some (.cells ((m529.map encW).flatten) .exact) := upd_same _ _ _
    have s60 := s69.trans s10
    refine Check_spec29 (h := hP22) (hM.mono s60) (by decide) (mT s60) fair29 (hE5.mono s60) (by decide) (slLit (xs := m529) encW_len rfl b10) (by decide) (fun g11 n15 s11 => ?_)
    rw [w29c, kUn_not]
    exact aRet_of (Sub.refl _) (hK _ _)
end Go.Proofs.Ytldlimkjhppjbaa.Gen

namespace Go.Proofs.Ytldlimkjhppjbaa.Gen
open Go Go.Proofs.Ytldlimkjhppjbaa.Abs Go.RowKit
variable {g : G} {n : Nat}
/-- three arguments are copied, in any order -/
theorem reg3 {h : Hp} {txs : List (List TxT)} {vm vt vx : Value} {m : List Int} {l3 z3 by3 : Nat} {zs : List Value} {β : Type} {enc : β → List Value} {xs : List β} {T1 T2 T3 T4 : Nat → Nat → Value → Value → Value → G → Nat → Prop} (hb : g l3 = some (.cells (wC h vm vt) .exact)) (hm : Sl encW 1 g vm m) (hml : m.length ≤ 1000) (hT : SlR TsC 1 g vt txs) (hF : Fair27 txs) (hx : Sl enc z3 g vx xs) (hxl : xs.length ≤ 1000000) (hc : ∀ y, ∀ v ∈ enc y, Abs.isCell v = true) (hb3 : by3 ≤ 1024)
    (k1 : ∀ l56 l63 v59 v62 v65 g' n', Sub g g' → Sl encW 1 g' v59 m → SlR TsC 1 g' v62 txs → Sl enc z3 g' v65 xs → T1 l56 l63 v59 v62 v65 g' n')
    (k2 : ∀ l56 l63 v59 v62 v65 g' n', Sub g g' → Sl encW 1 g' v59 m → SlR TsC 1 g' v62 txs → Sl enc z3 g' v65 xs → T2 l56 l63 v59 v62 v65 g' n')
    (k3 : ∀ l56 l63 v59 v62 v65 g' n', Sub g g' → Sl encW 1 g' v59 m → SlR TsC 1 g' v62 txs → Sl enc z3 g' v65 xs → T3 l56 l63 v59 v62 v65 g' n')
    (k4 : ∀ l56 l63 v59 v62 v65 g' n', Sub g g' → Sl encW 1 g' v59 m → SlR TsC 1 g' v62 txs → Sl enc z3 g' v65 xs → T4 l56 l63 v59 v62 v65 g' n') :
    (kNew (reps 0 [(.int .u64 0)]) .exact g n fun l56 g11 n56 =>
g11 l3 = g l3 ∧ g11 l3 = g l3 ∧ g11 l3 = g l3 ∧ (kAppend (.slice (some ⟨l56, 0, none⟩) 0 0) vm 1 8 g11 n56 fun v59 g12 n59 =>
g12 l3 = g11 l3 ∧ g12 l3 = g11 l3 ∧ (AC bellowslaw27_Copied_id [vt] g12 n59 fun v62 g13 n62 =>
g13 l3 = g12 l3 ∧ kNew (reps 0 zs) .exact g13 n62 fun l63 g14 n63 =>
g14 l3 = g13 l3 ∧ g14 l3 = g13 l3 ∧ g14 l3 = g13 l3 ∧ kAppend (.slice (some ⟨l63, 0, none⟩) 0 0) vx z3 by3 g14 n63 fun v65 g15 n65 =>
g15 l3 = g14 l3 ∧ T1 l56 l63 v59 v62 v65 g15 n65) ∧ (kNew (reps 0 zs) .exact g12 n59 fun l63 g17 n63 =>
g17 l3 = g12 l3 ∧ g17 l3 = g12 l3 ∧ g17 l3 = g12 l3 ∧ AC bellowslaw27_Copied_id [vt] g17 n63 fun v62 g18 n62 =>
g18 l3 = g17 l3 ∧ kAppend (.slice (some ⟨l63, 0, none⟩) 0 0) vx z3 by3 g18 n62 fun v65 g19 n65 =>
g19 l3 = g18 l3 ∧ T2 l56 l63 v59 v62 v65 g19 n65)) ∧ (kNew (reps 0 zs) .exact g11 n56 fun l63 g21 n63 =>
g21 l3 = g11 l3 ∧ g21 l3 = g11 l3 ∧ g21 l3 = g11 l3 ∧ kAppend (.slice (some ⟨l56, 0, none⟩) 0 0) vm 1 8 g21 n63 fun v59 g22 n59 =>
g22 l3 = g21 l3 ∧ g22 l3 = g21 l3 ∧ AC bellowslaw27_Copied_id [vt] g22 n59 fun v62 g23 n62 =>
g23 l3 = g22 l3 ∧ kAppend (.slice (some ⟨l63, 0, none⟩) 0 0) vx z3 by3 g23 n62 fun v65 g24 n65 =>
g24 l3 = g23 l3 ∧ T3 l56 l63 v59 v62 v65 g24 n65)) ∧ (kNew (reps 0 zs) .exact g n fun l63 g26 n63 =>
g26 l3 = g l3 ∧ g26 l3 = g l3 ∧ g26 l3 = g l3 ∧ kNew (reps 0 [(.int .u64 0)]) .exact g26 n63 fun l56 g27 n56 =>
g27 l3 = g26 l3 ∧ g27 l3 = g26 l3 ∧ g27 l3 = g26 l3 ∧ kAppend (.slice (some ⟨l56, 0, none⟩) 0 0) vm 1 8 g27 n56 fun v59 g28 n59 =>
g28 l3 = g27 l3 ∧ g28 l3 = g27 l3 ∧ AC bellowslaw27_Copied_id [vt] g28 n59 fun v62 g29 n62 =>
g29 l3 = g28 l3 ∧ kAppend (.slice (some ⟨l63, 0, none⟩) 0 0) vx z3 by3 g29 n62 fun v65 g30 n65 =>
g30 l3 = g29 l3 ∧ T4 l56 l63 v59 v62 v65 g30 n65) := by
  have q : ∀ {ga gb : G}, Sub g ga → Sub ga gb → gb l3 = ga l3 := fun sa sb => (sb.live (sa.live hb)).trans (sa.live hb).symm
  have mT : ∀ {gb : G}, Sub g gb → SlR TsC 1 gb vt txs := fun s => hT.mono (fun c x h => TsC.mono s c x h) s
  have mT2 : ∀ {v : Value} {ga gb : G}, Sub ga gb → SlR TsC 1 ga v txs → SlR TsC 1 gb v txs := fun s h => h.mono (fun c x h => TsC.mono s c x h) s
  refine ⟨fun hn2 => ?_, fun hn2 => ?_⟩
  · have sa := (Sub.refl g).new hn2 (some (.cells (reps 0 [.int .u64 0]) .exact))
    generalize upd g n (some (.cells (reps 0 [.int .u64 0]) .exact)) = ga at sa
    refine ⟨q (Sub.refl _) sa, q (Sub.refl _) sa, q (Sub.refl _) sa, appE (hm.mono sa) encW_cell (by decide) (by omega) (fun v30 gb nb sb h30 => ⟨q sa sb, q sa sb, ?_⟩), fun hn3 => ?_⟩
    · have sab := sa.trans sb
      refine ⟨Copied27_spec (mT sab) hF (fun v33 gc nc sc h33 => ⟨q sab sc, fun hn4 => ?_⟩), fun hn4 => ?_⟩
      · have sac := sab.trans sc
        have sd := (Sub.refl gc).new hn4 (some (.cells (reps 0 zs) .exact))
        generalize upd gc nc (some (.cells (reps 0 zs) .exact)) = gd at sd
        have sad := sac.trans sd
        refine ⟨q sac sd, q sac sd, q sac sd, appE (hx.mono sad) hc hb3 hxl (fun v36 gX nX sX h36 => ⟨q sad sX, ?_⟩)⟩
        exact k1 _ _ _ _ _ _ _ (sad.trans sX) (h30.mono (sc.trans (sd.trans sX))) (mT2 (sd.trans sX) h33) h36
      · have sd := (Sub.refl gb).new hn4 (some (.cells (reps 0 zs) .exact))
        generalize upd gb nb (some (.cells (reps 0 zs) .exact)) = gd at sd
        have sad := sab.trans sd
        refine ⟨q sab sd, q sab sd, q sab sd, Copied27_spec (mT sad) hF (fun v33 gc nc sc h33 => ⟨q sad sc, ?_⟩)⟩
        have sac := sad.trans sc
        refine appE (hx.mono sac) hc hb3 hxl (fun v36 gX nX sX h36 => ⟨q sac sX, ?_⟩)
        exact k2 _ _ _ _ _ _ _ (sac.trans sX) (h30.mono (sd.trans (sc.trans sX))) (mT2 sX h33) h36
    · have sd := (Sub.refl ga).new hn3 (some (.cells (reps 0 zs) .exact))
      generalize upd ga (n + 1) (some (.cells (reps 0 zs) .exact)) = gd at sd
      have sad := sa.trans sd
      refine ⟨q sa sd, q sa sd, q sa sd, appE (hm.mono sad) encW_cell (by decide) (by omega) (fun v30 gb nb sb h30 => ⟨q sad sb, q sad sb, ?_⟩)⟩
      have sab := sad.trans sb
      refine Copied27_spec (mT sab) hF (fun v33 gc nc sc h33 => ⟨q sab sc, ?_⟩)
      have sac := sab.trans sc
      refine appE (hx.mono sac) hc hb3 hxl (fun v36 gX nX sX h36 => ⟨q sac sX, ?_⟩)
      exact k3 _ _ _ _ _ _ _ (sac.trans sX) (h30.mono (sc.trans sX)) (mT2 sX h33) h36
  · have sa := (Sub.refl g).new hn2 (some (.cells (reps 0 zs) .exact))
    generalize upd g n (some (.cells (reps 0 zs) .exact)) = ga at sa
    refine ⟨q (Sub.refl _) sa, q (Sub.refl _) sa, q (Sub.refl _) sa, fun hn3 => ?_⟩
    have sd := (Sub.refl ga).new hn3 (some (.cells (reps 0 [.int .u64 0]) .exact))
    generalize upd ga (n + 1) (some (.cells (reps 0 [.int .u64 0]) .exact)) = gd at sd
    have sad := sa.trans sd
    refine ⟨q sa sd, q sa sd, q sa sd, appE (hm.mono sad) encW_cell (by decide) (by omega) (fun v30 gb nb sb h30 => ⟨q sad sb, q sad sb, ?_⟩)⟩
    have sab := sad.trans sb
    refine Copied27_spec (mT sab) hF (fun v33 gc nc sc h33 => ⟨q sab sc, ?_⟩)
    have sac := sab.trans sc
    refine appE (hx.mono sac) hc hb3 hxl (fun v36 gX nX sX h36 => ⟨q sac sX, ?_⟩)
    exact k4 _ _ _ _ _ _ _ (sac.trans sX) (h30.mono (sc.trans sX)) (mT2 sX h33) h36
theorem pstL_pre : ∀ (l : List StepT) (i : Nat) (ss m : List Int), ∃ q, (pstL l i ss m).1 = ss ++ q
  | [], i, ss, m => ⟨[], by simp [pstL]⟩
  | s :: r, i, ss, m => by
    unfold pstL
    split
    · split
      · obtain ⟨q, hq⟩ := pstL_pre r (i + 1) (ss ++ [(i : Int)]) s.out
        exact ⟨_, by rw [hq, List.append_assoc]⟩
      · exact ⟨[], by simp⟩
    · exact pstL_pre r (i + 1) ss m
theorem pstL_take {h : Hp} {xs : List Ev} {txs : List (List TxT)} {k : Nat} : ∀ (bs r : List (Int × Int)) (i i' : Nat) (m ss m1 m2 : List Int), (∀ b ∈ bs, 0 ≤ b.2 ∧ b.2 < ((toldH h b.1 (xs.take k)).length : Int)) → (chk h xs txs (bs ++ r) i m).2 = 0 →
    ∃ q, (pstL (steps h xs txs (bs ++ r) m) i' ss m1).1 = (pstL (steps h (xs.take k) txs bs m) i' ss m2).1 ++ q
  | [], r, i, i', m, ss, m1, m2, _, _ => by
    obtain ⟨q, hq⟩ := pstL_pre (steps h xs txs ([] ++ r) m) i' ss m1
    exact ⟨q, by rw [hq]; rfl⟩
  | b :: bs, r, i, i', m, ss, m1, m2, hb, h0 => by
    rw [List.cons_append] at h0 ⊢
    unfold chk at h0
    split at h0
    · cases h0
    simp only at h0
    split at h0
    · rename_i hc
      obtain ⟨p1, p2, p3⟩ := hc
      have hb' := fun c hc => hb c (List.mem_cons_of_mem _ hc)
      obtain ⟨hb0, hb1⟩ := hb b (by simp)
      obtain ⟨q1, q2, q3⟩ := toldH_take h b.1 xs k
      obtain ⟨rr, hrr⟩ := q2 b.2.toNat (by omega)
      have hl : ((toldH h b.1 xs).getD b.2.toNat []).length = ((toldH h b.1 (xs.take k)).getD b.2.toNat []).length + rr.length := by rw [hrr, List.length_append]
      simp only [steps]
      unfold pstL
      split
      · by_cases he : steps h (xs.take k) txs bs (runTx (roomH h) (txAt txs b.1.toNat b.2.toNat) m).1 ≠ [] ∨ ((toldH h b.1 (xs.take k)).getD b.2.toNat []).length = (runTx (roomH h) (txAt txs b.1.toNat b.2.toNat) m).2.length
        · have he2 : steps h xs txs (bs ++ r) (runTx (roomH h) (txAt txs b.1.toNat b.2.toNat) m).1 ≠ [] ∨ ((toldH h b.1 xs).getD b.2.toNat []).length = (runTx (roomH h) (txAt txs b.1.toNat b.2.toNat) m).2.length := by
            rcases he with he | he
            · left; rw [steps_nil] at he ⊢; simp [he]
            · right; omega
          simp only [if_pos he, if_pos he2]
          exact pstL_take bs r (i + 1) (i' + 1) _ _ _ _ hb' h0
        · simp only [if_neg he]
          split
          · obtain ⟨q, hq⟩ := pstL_pre (steps h xs txs (bs ++ r) (runTx (roomH h) (txAt txs b.1.toNat b.2.toNat) m).1) (i' + 1) (ss ++ [(i' : Int)]) (runTx (roomH h) (txAt txs b.1.toNat b.2.toNat) m).1
            exact ⟨_, by rw [hq, List.append_assoc]⟩
          · exact ⟨[], by simp⟩
      · exact pstL_take bs r (i + 1) (i' + 1) _ _ _ _ hb' h0
    · cases h0
theorem ofR_take {h : Hp} {m : List Int} {txs : List (List TxT)} {xs : List Ev} (k : Nat) (h0 : (checkR h m txs xs).2 = 0) (h1 : (checkR h m txs (xs.take k)).2 = 0) : ∃ q, (ofR h m txs xs).1 = (ofR h m txs (xs.take k)).1 ++ q := by
  unfold ofR
  rw [if_pos h0, if_pos h1]
  obtain ⟨r, hr⟩ := begH_take h xs k
  have hc : (chk h xs txs (begH h xs) 0 m).2 = 0 := by
    unfold checkR at h0
    split at h0
    · split at h0
      · exact h0
      · cases h0
    · cases h0
  rw [hr] at hc ⊢
  exact pstL_take _ _ 0 0 m [] m m begH_told hc
theorem maps_len {h : Hp} {m : List Int} {txs : List (List TxT)} {xs : List Ev} (h0 : (checkR h m txs xs).2 = 0) : 1 ≤ (mapsR h m txs xs).length ∧ (mapsR h m txs xs).length ≤ 2 := by
  unfold mapsR
  rw [if_pos h0]
  split <;> simp
end Go.Proofs.Ytldlimkjhppjbaa.Gen

namespace Go.Proofs.Ytldlimkjhppjbaa.Gen
open Go Go.Proofs.Ytldlimkjhppjbaa.Abs Go.RowKit
variable {g : G} {n : Nat}
theorem ee {va : Value} {e : Int} {K' : Value → Value → Prop} (k : K' va (.int .i64 e)) : kExtract (.tuple #[va, .int .i64 e]) 0 fun v => kExtract (.tuple #[va, .int .i64 e]) 1 fun w => K' v w := kEx (vs := [va, .int .i64 e]) rfl (kEx (vs := [va, .int .i64 e]) rfl k)
set_option maxRecDepth 100000 in
set_option maxHeartbeats 4000000 in
theorem CrashGrows_spec {cut : Int} {h : Hp} {xs : List Ev} {txs : List (List TxT)} {vm vt a1 : Value} {m : List Int} (hm : Sl encW 1 g vm m) (hT : SlR TsC 1 g vt txs) (hv : Sl encE 5 g a1 xs) (hcap : Cap a1 5) (hl1 : txs.length < 4611686018427387904) (hl2 : ∀ ts ∈ txs, ts.length < 4611686018427387904) {K : Cont} (hK : ∀ g' n', K (.bool true) g' n') :
    AC bellowslaw29_CrashGrows_id [.agg (wC h vm vt).toArray, a1, .int .i64 cut] g n K := by
  refine ACalls.fold X0_mono ?_
  rw [← bellowslaw29_CrashGrows_eq]
  simp only [bellowslaw29_CrashGrows, bellowslaw29_CrashGrows_c, kAgg_a]
  intro hn
  have s1 := (Sub.refl g).new hn (some (.cells (wC h vm vt) .exact))
  have hb1 : upd g n (some (.cells (wC h vm vt) .exact)) n = some (.cells (wC h vm vt) .exact) := upd_same _ _ _
  generalize upd g n (some (.cells (wC h vm vt) .exact)) = g1 at s1 hb1
  have hm1 := hm.mono s1
  have hT1 := hT.mono (fun c x h => TsC.mono s1 c x h) s1
  have hv1 := hv.mono s1
  have mT : ∀ {gb : G}, Sub g1 gb → SlR TsC 1 gb vt txs := fun s => hT1.mono (fun c x h => TsC.mono s c x h) s
  have jt : ∀ (t : Env) (n2 : Nat), t 28 = .bool true → bellowslaw29_CrashGrows_j1 AC K (bellowslaw29_CrashGrows_cut AC K) t g1 n2 := by
    intro t n2 q28
    simp only [bellowslaw29_CrashGrows_j1, q28]
    exact kSplit_t rfl (wakes29 fun g' n' => aRet_of (Sub.refl _) (hK _ _))
  refine kLd_of hb1 rfl (Fair27_spec hT1 hl1 hl2 fun n2 => ?_)
  rw [kUn_not]
  by_cases hF : Fair27 txs
  · refine kSplit_f (by simp [hF]) (kLd_of hb1 rfl (hm1.len ?_))
    rw [kBin_gtr]
    refine kSplit_d (fun _ => jt _ _ rfl) (fun hml => hv1.len ?_)
    rw [kBin_gtr]
    by_cases hxl : (400 : Int) < xs.length
    · exact jt _ _ (by show Value.bool (decide _) = _; rw [decide_eq_true hxl])
    have h10 := hF.1
    -- the two lists of what is sure
    have j5 : ∀ (t : Env) (g5 : G) (n5 : Nat), Sub g1 g5 → (checkR h m txs xs).2 = 0 → t 89 = .bool false → t 1 = a1 → t 3 = ptr n 0 → bellowslaw29_CrashGrows_j5 AC K t g5 n5 := by
      intro t g5 n5 s5 hc q89 q1 q3
      simp only [bellowslaw29_CrashGrows_j5, q89, q1, q3, kPtr_p, kFill_nil]
      have hb5 := s5.live hb1
      refine kSplit_f rfl (ldW hb5 (kLd_of hb5 rfl (kLd_of hb5 rfl ?_)))
      have j6 : ∀ (t : Env) (v : Value) (g6 : G) (n6 : Nat), t 12 = v → t 13 = .int .i64 0 → SlR MapC 1 g6 v (mapsR h m txs xs) → bellowslaw29_CrashGrows_j6 AC K t g6 n6 := by
        intro t v g6 n6 q12 q13 hM
        obtain ⟨l1, l2⟩ := maps_len (m := m) (txs := txs) hc
        simp only [bellowslaw29_CrashGrows_j6, q12, q13, kBin_eql]
        refine kSplit_t rfl (hM.len ?_)
        rw [kBin_geq]
        refine kSplit_t (by simp; omega) (hM.len ?_)
        rw [kBin_leq]
        refine kSplit_t (by simp; omega) (wakes29 fun g' n' => ?_)
        simp only [bellowslaw29_CrashGrows_j7]
        exact aRet_of (Sub.refl _) (hK _ _)
      have jm : ∀ {v59 v62 v65 : Value} {g' : G} {n' : Nat} {T : Cont}, Sub g5 g' → Sl encW 1 g' v59 m → SlR TsC 1 g' v62 txs → Sl encE 5 g' v65 xs → (∀ va g2 n2, SlR MapC 1 g2 va (mapsR h m txs xs) → T (.tuple #[va, .int .i64 0]) g2 n2) → AC crash_May_id [.agg (encH h).toArray, v59, v62, v65] g' n' T := fun s a b c k => May_spec29 a (by omega) b hF c (by omega) (fun va g2 n2 _ hA => by rw [hc]; exact k va g2 n2 hA)
      refine reg3 hb5 (hm1.mono s5) (by omega) (mT s5) hF (hv1.mono s5) (by omega) encE_cell (by decide) ?_ ?_ ?_ ?_
      · exact fun l56 l63 v59 v62 v65 g' n' s a b c => jm s a b c (fun va g2 n2 hA => ee (j6 _ va _ _ rfl rfl hA))
      · exact fun l56 l63 v59 v62 v65 g' n' s a b c => jm s a b c (fun va g2 n2 hA => ee (j6 _ va _ _ rfl rfl hA))
      · exact fun l56 l63 v59 v62 v65 g' n' s a b c => jm s a b c (fun va g2 n2 hA => ee (j6 _ va _ _ rfl rfl hA))
      · exact fun l56 l63 v59 v62 v65 g' n' s a b c => jm s a b c (fun va g2 n2 hA => ee (j6 _ va _ _ rfl rfl hA))
    have jcut : ∀ (k : Nat) (va vb : Value) (t : Env) (g4 : G) (n4 : Nat), Sub g1 g4 → Sl encZ 1 g4 va (ofR h m txs (xs.take k)).1 → Sl encZ 1 g4 vb (ofR h m txs xs).1 → Cap vb 1 → t 8 = va → t 10 = vb → t 9 = .int .i64 (checkR h m txs (xs.take k)).2 → t 11 = .int .i64 (checkR h m txs xs).2 → t 1 = a1 → t 3 = ptr n 0 → bellowslaw29_CrashGrows_cut AC K t g4 n4 := by
      intro k va vb t g4 n4 s4 hA hB hcB q8 q10 q9 q11 q1 q3
      have j4t : ∀ t : Env, t 74 = .bool true → bellowslaw29_CrashGrows_j4 AC K t g4 n4 := by
        intro t q74
        simp only [bellowslaw29_CrashGrows_j4, q74]
        exact kSplit_t rfl (wakes29 fun g' n' => aRet_of (Sub.refl _) (hK _ _))
      simp only [bellowslaw29_CrashGrows_cut, q9, q11, kBin_neq]
      refine kSplit_d (fun _ => j4t _ rfl) (fun hc1 => ?_)
      by_cases hc2 : (checkR h m txs xs).2 = 0
      · have hc1 : (checkR h m txs (xs.take k)).2 = 0 := Classical.byContradiction hc1
        obtain ⟨q, hq⟩ := ofR_take k hc2 hc1
        have j4 : ∀ t : Env, t 74 = .bool false → t 8 = va → t 10 = vb → t 1 = a1 → t 3 = ptr n 0 → bellowslaw29_CrashGrows_j4 AC K t g4 n4 := by
          intro t q74 q8 q10 q1 q3
          simp only [bellowslaw29_CrashGrows_j4, q74, q8, q10]
          refine kSplit_f rfl (hA.len (hB.len ?_))
          rw [kBin_gtr]
          have hle : (ofR h m txs (xs.take k)).1.length ≤ (ofR h m txs xs).1.length := by rw [hq]; simp
          have hbl := begH_len h xs
          have htk : (ofR h m txs (xs.take k)).1.length < 1000000 := by
            unfold ofR; rw [if_pos hc1]
            have h3 := (pstL_len (steps h (xs.take k) txs (begH h (xs.take k)) m) 0 [] m (fun s hs => (steps_out _ _ s hs).1)).2.2
            rw [steps_len] at h3
            have := begH_len h (xs.take k)
            rw [List.length_take] at this
            simp at h3; omega
          refine kSplit_f (by simp; omega) (hA.len ?_)
          refine hB.to encZ_len hcB hle (fun v86 h86 _ => ?_)
          refine Ints_spec hA h86 htk (fun n' => ?_)
          rw [kUn_not]
          refine j5 _ g4 n' s4 hc2 ?_ q1 q3
          show Value.bool _ = _
          rw [hq]; simp
        refine j4 _ ?_ q8 q10 q1 q3
        show Value.bool (decide _) = _
        rw [decide_eq_false (by rw [hc2]; simp)]
      · refine j4t _ ?_
        show Value.bool (decide _) = _
        rw [decide_eq_true hc2]
    have j2 : ∀ (k : Nat) (va : Value) (t : Env) (g3 : G) (n3 : Nat), Sub g1 g3 → Sl encZ 1 g3 va (ofR h m txs (xs.take k)).1 → t 8 = va → t 9 = .int .i64 (checkR h m txs (xs.take k)).2 → t 1 = a1 → t 3 = ptr n 0 → bellowslaw29_CrashGrows_j2 AC K (bellowslaw29_CrashGrows_cut AC K) t g3 n3 := by
      intro k va t g3 n3 s3 hA q8 q9 q1 q3
      have hb3 := s3.live hb1
      simp only [bellowslaw29_CrashGrows_j2, bellowslaw29_CrashGrows_j3, q1, q3, kPtr_p, kFill_nil]
      refine ldW hb3 (kLd_of hb3 rfl (kLd_of hb3 rfl ?_))
      have jm : ∀ {v59 v62 v65 : Value} {g' : G} {n' : Nat} {T : Cont}, Sub g3 g' → Sl encW 1 g' v59 m → SlR TsC 1 g' v62 txs → Sl encE 5 g' v65 xs → (∀ va g2 n2, Sub g3 g2 → Sl encZ 1 g2 va (ofR h m txs xs).1 → Cap va 1 → T (.tuple #[va, .int .i64 (checkR h m txs xs).2]) g2 n2) → AC crash_Sure_id [.agg (encH h).toArray, v59, v62, v65] g' n' T := fun s a b c k => Sure_spec29 a (by omega) b hF c (by omega) (fun va g2 n2 s2 hA hC => k va g2 n2 (s.trans s2) hA hC)
      refine reg3 hb3 (hm1.mono s3) (by omega) (mT s3) hF (hv1.mono s3) (by omega) encE_cell (by decide) ?_ ?_ ?_ ?_
      · exact fun l56 l63 v59 v62 v65 g' n' s a b c => jm s a b c (fun vb g2 n2 s2 hB hC => ee (jcut k va vb _ _ _ (s3.trans s2) (hA.mono s2) hB hC q8 rfl q9 rfl q1 q3))
      · exact fun l56 l63 v59 v62 v65 g' n' s a b c => jm s a b c (fun vb g2 n2 s2 hB hC => ee (jcut k va vb _ _ _ (s3.trans s2) (hA.mono s2) hB hC q8 rfl q9 rfl q1 q3))
      · exact fun l56 l63 v59 v62 v65 g' n' s a b c => jm s a b c (fun vb g2 n2 s2 hB hC => ee (jcut k va vb _ _ _ (s3.trans s2) (hA.mono s2) hB hC q8 rfl q9 rfl q1 q3))
      · exact fun l56 l63 v59 v62 v65 g' n' s a b c => jm s a b c (fun vb g2 n2 s2 hB hC => ee (jcut k va vb _ _ _ (s3.trans s2) (hA.mono s2) hB hC q8 rfl q9 rfl q1 q3))
    have j1 : ∀ (t : Env) (n2 : Nat), t 28 = .bool false → t 1 = a1 → t 2 = .int .i64 cut → t 3 = ptr n 0 → bellowslaw29_CrashGrows_j1 AC K (bellowslaw29_CrashGrows_cut AC K) t g1 n2 := by
      intro t n2 q28 q1 q2 q3
      simp only [bellowslaw29_CrashGrows_j1, q28, q1, q2, q3, kPtr_p, kFill_nil]
      refine kSplit_f rfl (hv1.len ?_)
      rw [kBin_add, wrap64_of (by omega) (by omega), show ((xs.length : Nat) : Int) + 1 = ((xs.length + 1 : Nat) : Int) by omega]
      refine ModN_spec (by omega) (by omega) (fun k n3 hk => ?_)
      refine ldW hb1 (kLd_of hb1 rfl (kLd_of hb1 rfl ?_))
      refine hv1.to encE_len hcap (by omega) (fun v48 h48 _ => ?_)
      have jm : ∀ {v59 v62 v65 : Value} {g' : G} {n' : Nat} {T : Cont}, Sub g1 g' → Sl encW 1 g' v59 m → SlR TsC 1 g' v62 txs → Sl encE 5 g' v65 (xs.take k) → (∀ va g2 n2, Sub g1 g2 → Sl encZ 1 g2 va (ofR h m txs (xs.take k)).1 → Cap va 1 → T (.tuple #[va, .int .i64 (checkR h m txs (xs.take k)).2]) g2 n2) → AC crash_Sure_id [.agg (encH h).toArray, v59, v62, v65] g' n' T := fun s a b c k => Sure_spec29 a (by omega) b hF c (by rw [List.length_take]; omega) (fun va g2 n2 s2 hA hC => k va g2 n2 (s.trans s2) hA hC)
      refine reg3 hb1 hm1 (by omega) hT1 hF h48 (by rw [List.length_take]; omega) encE_cell (by decide) ?_ ?_ ?_ ?_
      · exact fun l56 l63 v59 v62 v65 g' n' s a b c => jm s a b c (fun vb g2 n2 s2 hB _ => ee (j2 k vb _ _ _ s2 hB rfl rfl q1 q3))
      · exact fun l56 l63 v59 v62 v65 g' n' s a b c => jm s a b c (fun vb g2 n2 s2 hB _ => ee (j2 k vb _ _ _ s2 hB rfl rfl q1 q3))
      · exact fun l56 l63 v59 v62 v65 g' n' s a b c => jm s a b c (fun vb g2 n2 s2 hB _ => ee (j2 k vb _ _ _ s2 hB rfl rfl q1 q3))
      · exact fun l56 l63 v59 v62 v65 g' n' s a b c => jm s a b c (fun vb g2 n2 s2 hB _ => ee (j2 k vb _ _ _ s2 hB rfl rfl q1 q3))
    refine j1 _ _ ?_ rfl rfl rfl
    show Value.bool (decide _) = _
    rw [decide_eq_false hxl]
  · exact kSplit_t (by simp [hF]) (jt _ _ rfl)
end Go.Proofs.Ytldlimkjhppjbaa.Gen

namespace Go.Proofs.Ytldlimkjhppjbaa.Gen
open Go Go.Proofs.Ytldlimkjhppjbaa.Abs Go.RowKit
variable {g : G} {n : Nat}
def StepC (g : G) (c : List Value) (s : StepT) : Prop := ∃ (a b : Int) (va vb e : Value) (d : Bool), c = [.int .i64 a, .int .i64 b, va, vb, .int .i64 0, e, .bool d] ∧ Sl encW 1 g va s.out ∧ Sl encW 1 g vb s.tells ∧ Sl encW 1 g e s.told
theorem StepC.mono {g g' : G} (c : List Value) (s : StepT) (hs : Sub g g') (h : StepC g c s) : StepC g' c s := by
  obtain ⟨a, b, va, vb, e, d, rfl, h1, h2, h3⟩ := h
  exact ⟨a, b, va, vb, e, d, rfl, h1.mono hs, h2.mono hs, h3.mono hs⟩
theorem fill7 {a b va vb e d : Value} (ha : Abs.isCell a = true) (hb : Abs.isCell b = true) (he : Abs.isCell e = true) (hd : Abs.isCell d = true) (K : List Value → Prop) (k : K [a, b, va, vb, .int .i64 0, e, d]) :
    kFill [(.int .i64 0), (.int .i64 0), (.slice none 0 0), (.slice none 0 0), (.int .i64 0), (.slice none 0 0), (.bool false)] [(0, none, a), (1, none, b), (2, (some 3), .agg (rCells va vb).toArray), (5, none, e), (6, none, d)] K :=
  ⟨ha, by simp, hb, by simp, rfl, by simp [rCells], he, by simp [splice, rCells], hd, by simp [splice, rCells], k⟩
theorem fill71 {a b va vb e d : Value} (K : List Value → Prop) (k : K [a, b, va, vb, .int .i64 0, e, d]) :
    kFill (reps 1 [(.int .i64 0), (.int .i64 0), (.slice none 0 0), (.slice none 0 0), (.int .i64 0), (.slice none 0 0), (.bool false)]) [(0, (some 7), .agg ([a, b, va, vb, .int .i64 0, e, d] : List Value).toArray)] K := ⟨rfl, by simp [reps], k⟩
abbrev zC : List Value := [(.slice none 0 0), (.int .i64 0), (.int .i64 0)]
theorem fillX {a e : Int} (K : List Value → Prop) (k : K [.slice none 0 0, .int .i64 a, .int .i64 e]) : kFill zC [(1, none, .int .i64 a), (2, none, .int .i64 e)] K := ⟨rfl, by simp, rfl, by simp, k⟩
theorem fillX1 {e : Int} (K : List Value → Prop) (k : K [.slice none 0 0, .int .i64 0, .int .i64 e]) : kFill zC [(2, none, .int .i64 e)] K := ⟨rfl, by simp, k⟩
theorem fillX2 {w : Value} {a : Int} (hw : Abs.isCell w = true) (K : List Value → Prop) (k : K [w, .int .i64 a, .int .i64 0]) : kFill zC [(0, none, w), (1, none, .int .i64 a)] K := ⟨hw, by simp, rfl, by simp, k⟩
theorem ldR {l : Nat} {a b : Value} {bk : BK} {K : List Value → Prop} (h : g l = some (.cells (rCells a b) bk)) (k : K (rCells a b)) : kLdN g l 0 3 K := kLdN_of h (by simp [rCells]) k
/-- a transaction's run, put into a block -/
theorem putR {gA gL gR : G} {l18 : Nat} {va vb : Value} {ra rb : List Int} (s1 : Sub gA gL) (hA : gA l18 = none) (hL : gL l18 = some (.cells zR .exact)) (s2 : Sub gL gR) (oa : OwnS encW 1 none0 gR va ra) (ob : OwnS encW 1 none0 gR vb rb) (na : l18 ∉ blks va) (nb : l18 ∉ blks vb) {K : G → Prop}
    (hK : ∀ gX, Sub gA gX → gX l18 = some (.cells (rCells va vb) .exact) → OwnS encW 1 none0 gX va ra → OwnS encW 1 none0 gX vb rb → K gX) : (rCells va vb).length = 3 ∧ kStN gR l18 0 (rCells va vb) K := by
  refine ⟨by simp [rCells], kStN_of (s2.live hL) rfl (by simp [rCells]) (by simp [rCells, oa.isCell, ob.isCell]; rfl) ?_⟩
  refine hK _ (fun l => ?_) (upd_same _ _ _) (oa.keepB fun l b q1 q2 => ?_) (ob.keepB fun l b q1 q2 => ?_)
  · by_cases e : l = l18
    · subst e; exact .inl hA
    · rw [upd_ne _ _ e]; exact (s1.trans s2) l
  · rw [upd_ne _ _ (fun e : l = l18 => na (e ▸ q2))]; exact q1
  · rw [upd_ne _ _ (fun e : l = l18 => nb (e ▸ q2))]; exact q1

theorem BS_upd8 {w : Value} {acc : List StepT} {l : Nat} {bs : List Value} {bk : BK} {b : Blk} (h : BS StepC 7 g w acc) (hl : hideV g w l = some (.cells bs bk)) (hb : ∀ c ∈ bs, ∀ i, c ≠ .int .u64 i) : SlR StepC 7 (upd g l (some b)) w acc := by
  obtain ⟨⟨els, h1, h2, h3⟩, _⟩ := h
  have hn : l ∉ blks w := (hideV_some.1 hl).1
  refine ⟨els, by rw [← h2]; exact (h1.keep fun l' b' q1 q2 => by rw [upd_ne _ _ (fun e : l' = l => hn (e ▸ mem_blks.2 q2))]; exact q1).rd, h2, fun i c x hc hx => ⟨(h3 i c x hc hx).1, ?_⟩⟩
  obtain ⟨a, b', va, vb, e, d, rfl, q1, q2, q3⟩ := (h3 i c x hc hx).2
  have s := (hideV_sub g w).upd l (some b)
  exact ⟨a, b', va, vb, e, d, rfl, (Sl.updW q1 hl hb).mono s, (Sl.updW q2 hl hb).mono s, (Sl.updW q3 hl hb).mono s⟩
theorem zC_no : ∀ c ∈ zC, ∀ i : Int, c ≠ .int .u64 i := by simp [zC]
/-- the result's block is filled and told -/
theorem exitL {l8 : Nat} {g0 gx : G} {w : Value} {acc : List StepT} {at_ e : Int} {K : Cont} (hs : Sub g0 gx) (h0 : g0 l8 = none) (h8 : hideV gx w l8 = some (.cells zC .exact)) (hB : BS StepC 7 gx w acc) (hK : ∀ vl g' n', Sub g0 g' → SlR StepC 7 g' vl acc → K (.agg ([vl, .int .i64 at_, .int .i64 e] : List Value).toArray) g' n') :
    ([w, .int .i64 at_, .int .i64 e] : List Value).length = 3 ∧ kStN gx l8 0 [w, .int .i64 at_, .int .i64 e] fun g' => kLdN g' l8 0 3 fun r0 => aRet K (.agg r0.toArray) g' n := by
  refine ⟨rfl, kStN_of ((hideV_sub _ _).live h8) rfl (by simp) (by simp [hB.isCell]; exact ⟨rfl, rfl⟩) (kLdN_of (upd_same _ _ _) (by simp [splice]) (aRet_of (Sub.refl _) ?_))⟩
  refine hK w _ _ (fun l => ?_) (BS_upd8 hB h8 zC_no)
  by_cases e : l = l8
  · subst e; exact .inl h0
  · rw [upd_ne _ _ e]; exact hs l
theorem exit0 {l8 : Nat} {g0 gx : G} {at_ e : Int} {K : Cont} (hs : Sub g0 gx) (h0 : g0 l8 = none) (h8 : gx l8 = some (.cells zC .exact)) (hK : ∀ vl g' n', Sub g0 g' → SlR StepC 7 g' vl [] → K (.agg ([vl, .int .i64 at_, .int .i64 e] : List Value).toArray) g' n') :
    ([.slice none 0 0, .int .i64 at_, .int .i64 e] : List Value).length = 3 ∧ kStN gx l8 0 [.slice none 0 0, .int .i64 at_, .int .i64 e] fun g' => kLdN g' l8 0 3 fun r0 => aRet K (.agg r0.toArray) g' n :=
  exitL hs h0 (hideV_some.2 ⟨by simp [blks, blkOf], h8⟩) BS.nil hK
set_option maxRecDepth 100000 in
set_option maxHeartbeats 4000000 in
theorem rloopL {h : Hp} {xs : List Ev} {txs : List (List TxT)} {v66 vt vx : Value} {l4 l8 : Nat} {bs0 : List (Int × Int)} {g0 gB : G} {m : List Int} {K : Cont} {res : List StepT × Int × Int}
    (s0 : Sub g0 gB) (h0 : g0 l8 = none) (h8B : gB l8 = some (.cells zC .exact)) (hb4 : gB l4 = some (.cells (encH h) .exact)) (hT : SlR TsC 1 gB vt txs) (hB : Sl encJ 2 gB v66 bs0) (hv : Sl encE 5 gB vx xs) (hcap : Cap vx 5)
    (hAG : AllGood txs) (hbt : ∀ b ∈ bs0, 0 ≤ b.2 ∧ b.2 < ((toldH h b.1 xs).length : Int)) (hlen : xs.length < 1000000) (hbl : bs0.length < 1000000) (htl : txs.length < 1000000)
    (hml0 : 0 < m.length) (hml : m.length ≤ 1000) (hK : ∀ vl g' n', Sub g0 g' → SlR StepC 7 g' vl res.1 → K (.agg ([vl, .int .i64 res.2.1, .int .i64 res.2.2] : List Value).toArray) g' n') (mm : Nat) (t : Env) (g9 : G) (n9 : Nat)
    (h9 : ∃ (i : Nat) (w : Value) (acc : List StepT) (vm : Value) (cm : List Int), mm + i = bs0.length ∧ t 2 = vt ∧ t 3 = vx ∧ t 4 = ptr l4 0 ∧ t 8 = ptr l8 0 ∧ t 11 = v66 ∧ t 12 = vm ∧ t 13 = w ∧ t 14 = .int .i64 (i : Nat) ∧ Sub gB (hideV g9 w) ∧ Sl encW 1 (hideV g9 w) vm cm ∧ BS StepC 7 g9 w acc ∧ acc.length = i ∧ cm.length = m.length ∧ chk h xs txs (bs0.drop i) i cm = res.2 ∧ (if (chk h xs txs (bs0.drop i) i cm).2 = 0 then acc ++ steps h xs txs (bs0.drop i) cm else []) = res.1) :
    lfp (bellowsref28_Check_l6 AC K) t g9 n9 := by
  refine lfp_ind (m := mm) (Inv := fun mm t g9 n9 => ∃ (i : Nat) (w : Value) (acc : List StepT) (vm : Value) (cm : List Int), mm + i = bs0.length ∧ t 2 = vt ∧ t 3 = vx ∧ t 4 = ptr l4 0 ∧ t 8 = ptr l8 0 ∧ t 11 = v66 ∧ t 12 = vm ∧ t 13 = w ∧ t 14 = .int .i64 (i : Nat) ∧ Sub gB (hideV g9 w) ∧ Sl encW 1 (hideV g9 w) vm cm ∧ BS StepC 7 g9 w acc ∧ acc.length = i ∧ cm.length = m.length ∧ chk h xs txs (bs0.drop i) i cm = res.2 ∧ (if (chk h xs txs (bs0.drop i) i cm).2 = 0 then acc ++ steps h xs txs (bs0.drop i) cm else []) = res.1) ?_ h9
  clear h9
  rintro I mm t g9 n9 ih ⟨i, w, acc, vm, cm, hm, t2, t3, t4, t8, t11, t12, t13, t14, hgB, hvm, hBS, hus, hcl, hres, hresL⟩
  have sS := hideV_sub g9 w
  have sB := hgB.trans sS
  have h8 := sB.live h8B
  have hb49 := sB.live hb4
  have hvm9 := hvm.mono sS
  have hT9 := hT.mono (fun c x h => TsC.mono sB c x h) sB
  have hB9 := hB.mono sB
  have hv9 := hv.mono sB
  have bad : ∀ (gx : G) (n' : Nat), Sub g9 gx → chk h xs txs (bs0.drop i) i cm = ((i : Int), (16 : Int)) → ([.slice none 0 0, .int .i64 (i : Int), .int .i64 16] : List Value).length = 3 ∧ kStN gx l8 0 [.slice none 0 0, .int .i64 (i : Int), .int .i64 16] fun g' => kLdN g' l8 0 3 fun r0 => aRet K (.agg r0.toArray) g' n' := fun gx n' sx hc => by
    rw [hc] at hres hresL
    rw [if_neg (by simp)] at hresL
    rw [← hres, ← hresL] at hK
    exact exit0 (s0.trans (sB.trans sx)) h0 (sx.live h8) hK
  simp only [bellowsref28_Check_l6, t11, t14, kPtr_p]
  refine hB9.len ?_
  rw [kBin_lss]
  refine kSplit_d (fun hj => ?_) (fun hj => ?_)
  · have hj : i < bs0.length := by omega
    have hget : bs0[i]? = some bs0[i] := List.getElem?_eq_getElem hj
    generalize bs0[i] = b at hget
    have hmem := List.mem_of_getElem? hget
    obtain ⟨hb0, hb1⟩ := hbt b hmem
    rw [drop_get hget] at hres hresL bad
    refine hB9.idx encJ_len hget (fun l o ha => kIA0 ?_)
    rw [kPtr_p]
    refine ha.ld (i := 0) rfl (hB9.idx encJ_len hget (fun l o ha => kIA1 ?_))
    rw [kPtr_p]
    refine ha.ld (i := 1) rfl ?_
    have j8t : ∀ t' : Env, chk h xs txs (b :: bs0.drop (i + 1)) i cm = ((i : Int), (16 : Int)) → t' 100 = .bool true → t' 8 = ptr l8 0 → t' 14 = .int .i64 (i : Nat) → bellowsref28_Check_j8 AC K I t' g9 n9 := by
      intro t' hc q100 q8 q14
      simp only [bellowsref28_Check_j8, q100, q8, q14, kPtr_p, kAgg_a]
      exact kSplit_t rfl (fillX _ (bad _ _ (Sub.refl _) hc))
    have j8 : ∀ t' : Env, ¬ b.1 < 0 → ¬ (txs.length : Int) ≤ b.1 → ¬ ((txs.getD b.1.toNat []).length : Int) ≤ b.2 → t' 100 = .bool false → t' 2 = vt → t' 3 = vx → t' 4 = ptr l4 0 → t' 8 = ptr l8 0 → t' 11 = v66 → t' 12 = vm → t' 13 = w → t' 14 = .int .i64 (i : Nat) → t' 15 = .int .i64 b.1 → t' 16 = .int .i64 b.2 → bellowsref28_Check_j8 AC K I t' g9 n9 := by
      intro t' hx0 hx1 hkl q100 q2 q3 q4 q8 q11 q12 q13 q14 q15 q16
      simp only [bellowsref28_Check_j8, q100, q2, q3, q4, q8, q12, q14, q15, q16, kPtr_p, kAgg_a]
      refine kSplit_f rfl ?_
      obtain ⟨c, hc⟩ : ∃ c : Nat, b.1 = (c : Int) := ⟨b.1.toNat, by omega⟩
      obtain ⟨k, hk⟩ : ∃ k : Nat, b.2 = (k : Int) := ⟨b.2.toNat, by omega⟩
      have hct : b.1.toNat = c := by omega
      have hkt : b.2.toNat = k := by omega
      have hcl' : c < txs.length := by omega
      have hgc : txs[c]? = some txs[c] := List.getElem?_eq_getElem hcl'
      have hgd : txs.getD c [] = txs[c] := getD_of hgc
      generalize txs[c] = ts at hgc hgd
      rw [hc, hk]
      have q15' : t' 15 = .int .i64 (c : Nat) := by rw [q15, hc]
      have q16' : t' 16 = .int .i64 (k : Nat) := by rw [q16, hk]
      rw [hct, hgd] at hkl
      have hkl' : k < ts.length := by omega
      have hgk : ts[k]? = some ts[k] := List.getElem?_eq_getElem hkl'
      have hgd2 : txAt txs b.1.toNat b.2.toNat = ts[k] := by unfold txAt; rw [hct, hkt, hgd]; exact getD_of hgk
      generalize ts[k] = tx at hgk hgd2
      have hgood : GoodT tx.ops := hAG ts (List.mem_of_getElem? hgc) tx (List.mem_of_getElem? hgk)
      refine ldH hb49 (rTold_spec hv9 hcap hlen (fun v106 css g14 n14 s14 hS f14 => ?_))
      refine ldH (s14.live hb49) (hT9.idx hgc (fun l2 o2 cc2 ha2 hcz2 hx2 => ?_))
      obtain ⟨vr2, rfl, hr2⟩ := hx2
      simp only [kPtr_p]
      have ha2 := ha2.mono s14
      refine ha2.ld (i := 0) rfl (hr2.idx hgk (fun l3 o3 cc3 ha3 hcz3 hx3 => ?_))
      obtain ⟨vo, rfl, ho⟩ := hx3
      simp only [kPtr_p]
      have ha3 := ha3.mono s14
      have ho14 := ho.mono s14
      have hvm14 := hvm9.mono s14
      have hb414 := s14.live hb49
      refine ha3.ldN rfl ?_
      obtain ⟨bs2, bk2, e2, _⟩ := id ha2
      obtain ⟨bs3, bk3, e3, _⟩ := id ha3
      have hrm := roomH_le h
      have hstep : chk h xs txs (b :: bs0.drop (i + 1)) i cm = if ((toldH h b.1 xs).getD k []).length ≤ (runTx (roomH h) tx cm).2.length ∧ (runTx (roomH h) tx cm).2.take ((toldH h b.1 xs).getD k []).length = (toldH h b.1 xs).getD k [] ∧ (b.2 = ((toldH h b.1 xs).length : Int) - 1 ∨ ((toldH h b.1 xs).getD k []).length = (runTx (roomH h) tx cm).2.length) then chk h xs txs (bs0.drop (i + 1)) (i + 1) (runTx (roomH h) tx cm).1 else ((i : Int), (16 : Int)) := by
        rw [chk, if_neg, hgd2, hkt]
        rw [hct, hgd]; omega
      have hRl := runTx_len (roomH h) tx cm
      have hRt := runTx_tl (roomH h) tx cm
      have hR0 : 0 < (runTx (roomH h) tx cm).2.length := by unfold runTx; simp
      have ho16 := hgood.1
      obtain ⟨hTl, hGl⟩ := toldH_lens (h := h) (c := b.1) (xs := xs) (k := k)
      have hkT : k < (toldH h b.1 xs).length := by omega
      simp only [steps] at hresL
      rw [hgd2, hkt] at hresL
      rw [hc] at hstep hTl hGl hkT hresL
      have run : ∀ {g : G} {n : Nat} {K : Cont}, Sub g14 g → (∀ va vt g' n', Sub g g' → OwnS encW 1 none0 g' va (runTx (roomH h) tx cm).1 → OwnS encW 1 none0 g' vt (runTx (roomH h) tx cm).2 → (∀ l ∈ blks va, g l = none) → (∀ l ∈ blks vt, g l = none) → K (.agg (rCells va vt).toArray) g' n') →
          AC bellowsref26_Run_id [vm, .int .i64 (roomH h), .agg ([vo, .bool tx.abort] : List Value).toArray] g n K := fun s hk => rRun_spec (hvm14.mono s) (ho14.mono s) hgood hrm.1 (by omega) (by omega) (by omega) hk
      generalize runTx (roomH h) tx cm = rr at run hstep hRl hRt hR0 hresL
      obtain ⟨ra, rb⟩ := rr
      generalize toldH h (c : Int) xs = T at hS hstep hTl hGl hkT hresL
      generalize hgot : T.getD k [] = got at hstep hGl hresL
      simp only at run hstep hRl hRt hR0 hresL
      -- behind the run
      have j9 : ∀ (t' : Env) (gX : G) (nX l18 : Nat) (va vb : Value), Sub g14 gX → gX l18 = some (.cells (rCells va vb) .exact) → OwnS encW 1 none0 gX va ra → OwnS encW 1 none0 gX vb rb → (∀ l ∈ blks va, g14 l = none) → (∀ l ∈ blks vb, g14 l = none) → t' 2 = vt → t' 3 = vx → t' 4 = ptr l4 0 → t' 8 = ptr l8 0 → t' 11 = v66 → t' 13 = w → t' 14 = .int .i64 (i : Nat) → t' 15 = .int .i64 (c : Nat) → t' 16 = .int .i64 (k : Nat) → t' 17 = v106 → t' 18 = ptr l18 0 → bellowsref28_Check_j9 AC K I t' gX nX := by
        intro t' gX nX l18 va vb sX hX oa ob fa fb q2 q3 q4 q8 q11 q13 q14 q15 q16 q17 q18
        have hSX := hS.mono sX
        have s9X := s14.trans sX
        -- all is well, or not
        have j8f : ∀ (t' : Env) (nY : Nat), got.length ≤ rb.length ∧ rb.take got.length = got ∧ ((c : Int) = c ∧ (k : Int) = (T.length : Int) - 1 ∨ got.length = rb.length) → t' 145 = .bool false → t' 2 = vt → t' 3 = vx → t' 4 = ptr l4 0 → t' 8 = ptr l8 0 → t' 11 = v66 → t' 13 = w → t' 14 = .int .i64 (i : Nat) → t' 15 = .int .i64 (c : Nat) → t' 16 = .int .i64 (k : Nat) → t' 17 = v106 → t' 18 = ptr l18 0 → (∃ d, t' 19 = .bool d) → bellowsref28_Check_j10 AC K I t' gX nY := by
          intro t' nY hok q145 q2 q3 q4 q8 q11 q13 q14 q15 q16 q17 q18 ⟨d, q19⟩
          rw [if_pos ⟨hok.1, hok.2.1, by rcases hok.2.2 with h | h; exact .inl (by omega); exact .inr h⟩] at hstep
          rw [hstep] at hres hresL
          simp only [bellowsref28_Check_j10, bellowsref28_Check_j11, q145, q13, q14, q15, q16, q17, q18, q19, kPtr_p]
          refine kSplit_f rfl (kLd_of hX rfl (ldR hX (SSget hSX hkT (fun l2 o2 cg2 _ hcg og2 hld2 => ?_))))
          rw [hgot] at og2
          rw [kPtr_p]
          refine hld2 _ (fill7 rfl rfl og2.isCell rfl _ (fill71 _ (fun hnz => ?_)))
          have hBX := hBS.mono (fun c x s h => StepC.mono c x s h) s9X
          have hHX := hideV_mono s9X w
          have fw : ∀ (v : Value) (r : List Int), OwnS encW 1 none0 gX v r → (∀ l ∈ blks v, g9 l = none) → Sl encW 1 (hideV gX w) v r := fun v r o f => (o.keepB fun l b q1 q2 => hideV_some.2 ⟨(fun hm => by obtain ⟨b', hb'⟩ := hBS.live l hm; rw [f l q2] at hb'; cases hb'), q1⟩).sl
          have ha' := fw va ra oa (fun l hl => s14.none (fa l hl))
          have hb' := fw vb rb ob (fun l hl => s14.none (fb l hl))
          have hg' := fw cg2 got og2 (fun l hl => f14 l (List.mem_append.2 (.inr (List.mem_flatMap.2 ⟨cg2, List.mem_of_getElem? hcg, hl⟩))))
          refine hBX.app (x := ⟨ra, rb, got⟩) (fun c x s h => StepC.mono c x s h) rfl (by simp [og2.isCell, oa.isCell, ob.isCell]; exact ⟨rfl, rfl, rfl, rfl⟩) ⟨(c : Int), (k : Int), va, vb, cg2, d, rfl, ha', hb', hg'⟩ hnz (by decide) (by omega) (fun v' g' n' hB2 hs2 => ?_)
          show kBin .int .add (t' 14) _ _
          rw [q14, kBin_add, wrap64_of (by omega) (by omega), show ((i : Nat) : Int) + 1 = ((i + 1 : Nat) : Int) by omega]
          refine ih (mm - 1) _ _ _ (by omega) ⟨i + 1, v', acc ++ [⟨ra, rb, got⟩], va, ra, by omega, q2, q3, q4, q8, q11, rfl, rfl, rfl, hgB.trans (hHX.trans hs2), ha'.mono hs2, hB2, by simp [hus], by omega, hres, ?_⟩
          rw [List.append_assoc]; exact hresL
        have j8t : ∀ (t' : Env) (nY : Nat), ¬ (got.length ≤ rb.length ∧ rb.take got.length = got ∧ ((k : Int) = (T.length : Int) - 1 ∨ got.length = rb.length)) → t' 145 = .bool true → t' 8 = ptr l8 0 → t' 14 = .int .i64 (i : Nat) → bellowsref28_Check_j10 AC K I t' gX nY := by
          intro t' nY hno q145 q8 q14
          simp only [bellowsref28_Check_j10, q145, q8, q14, kPtr_p, kAgg_a]
          refine kSplit_t rfl (fillX _ (bad _ _ s9X ?_))
          rw [hstep, if_neg]; rintro ⟨h1, h2, h3⟩; exact hno ⟨h1, h2, by rcases h3 with h | h; exact .inl (by omega); exact .inr h⟩
        simp only [bellowsref28_Check_j9, q16, q17, q18, kPtr_p]
        refine hSX.ho.sl.len ?_
        rw [hSX.len, kBin_sub, wrap64_of (by omega) (by omega), kBin_eql]
        refine kLd_of hX rfl (SSget hSX hkT (fun l o cg _ _ og hld => ?_))
        rw [hgot] at og
        rw [kPtr_p]
        refine hld _ (BeginsW_spec ob.sl ob.cap og.sl (by omega) (fun nY => ?_))
        rw [kUn_not]
        by_cases hbeg : got.length ≤ rb.length ∧ rb.take got.length = got
        · refine kSplit_f (by rw [decide_eq_true hbeg]; rfl) ?_
          rw [kUn_not]
          by_cases hl : (k : Int) = (T.length : Int) - 1
          · refine kSplit_f (by rw [decide_eq_true hl]; rfl) ?_
            exact j8f _ _ ⟨hbeg.1, hbeg.2, .inl ⟨rfl, hl⟩⟩ rfl q2 q3 q4 q8 q11 q13 q14 q15 q16 q17 q18 ⟨_, rfl⟩
          · refine kSplit_t (by rw [decide_eq_false hl]; rfl) ?_
            refine SSget hSX hkT (fun l3 o3 cg3 _ _ og3 hld3 => ?_)
            rw [hgot] at og3
            rw [kPtr_p]
            refine hld3 _ (og3.sl.len (kLd_of hX rfl (ob.sl.len ?_)))
            rw [kBin_neq]
            by_cases hne : got.length = rb.length
            · refine j8f _ _ ⟨hbeg.1, hbeg.2, .inr hne⟩ ?_ q2 q3 q4 q8 q11 q13 q14 q15 q16 q17 q18 ⟨_, rfl⟩
              show Value.bool (decide _) = _
              rw [decide_eq_false (by omega)]
            · refine j8t _ _ (fun ⟨_, _, h3⟩ => by rcases h3 with h3 | h3; exact hl h3; exact hne h3) ?_ q8 q14
              show Value.bool (decide _) = _
              rw [decide_eq_true (by omega)]
        · refine kSplit_t (by rw [decide_eq_false hbeg]; rfl) ?_
          exact j8t _ _ (fun ⟨h1, h2, _⟩ => hbeg ⟨h1, h2⟩) rfl q8 q14
      refine ⟨rRoom_spec fun g15 n15 s15 => ⟨(s15.live e2).trans e2.symm, (s15.live e3).trans e3.symm, run s15 (fun va vb g16 n16 s16 oa ob fa fb hn16 => ⟨upd_ne _ _ (ne_of_live ((s15.trans s16).live hb414) hn16).symm, upd_ne _ _ (ne_of_live ((s15.trans s16).live e2) hn16).symm, upd_ne _ _ (ne_of_live ((s15.trans s16).live e3) hn16).symm, ?_⟩), fun hn15 => ⟨upd_ne _ _ (ne_of_live (s15.live hb414) hn15).symm, upd_ne _ _ (ne_of_live (s15.live e2) hn15).symm, upd_ne _ _ (ne_of_live (s15.live e3) hn15).symm, run (s15.new hn15 _) (fun va vb g16 n16 s16 oa ob fa fb => ?_)⟩⟩, fun hn14 => ⟨upd_ne _ _ (ne_of_live hb414 hn14).symm, upd_ne _ _ (ne_of_live e2 hn14).symm, upd_ne _ _ (ne_of_live e3 hn14).symm, rRoom_spec fun g15 n15 s15 => ⟨?_, ?_, run (((Sub.refl g14).new hn14 _).trans s15) (fun va vb g16 n16 s16 oa ob fa fb => ?_)⟩⟩⟩
      · rw [kAgg_a]
        have sN := (Sub.refl g16).new hn16 (some (.cells zR .exact))
        refine putR (gA := g14) ((s15.trans s16).trans sN) ((s15.trans s16).none hn16) (upd_same _ _ _) (Sub.refl _) (oa.mono sN) (ob.mono sN) (fun hm => by obtain ⟨b, hb⟩ := oa.there _ hm (by omega); rw [hn16] at hb; cases hb) (fun hm => by obtain ⟨b, hb⟩ := ob.there _ hm (by omega); rw [hn16] at hb; cases hb) (fun gX sX hX oa ob => ?_)
        exact j9 _ gX _ _ va vb sX hX oa ob (fun l hl => s15.none (fa l hl)) (fun l hl => s15.none (fb l hl)) q2 q3 q4 q8 q11 q13 q14 q15' q16' rfl rfl
      · rw [kAgg_a]
        have hL : upd g15 n15 (some (.cells zR .exact)) n15 = some (.cells zR .exact) := upd_same _ _ _
        refine putR (gA := g14) (s15.new hn15 _) (s15.none hn15) hL s16 oa ob (fun hm => by have := fa _ hm; rw [hL] at this; cases this) (fun hm => by have := fb _ hm; rw [hL] at this; cases this) (fun gX sX hX oa ob => ?_)
        exact j9 _ gX _ _ va vb sX hX oa ob (fun l hl => (s15.new hn15 _).none (fa l hl)) (fun l hl => (s15.new hn15 _).none (fb l hl)) q2 q3 q4 q8 q11 q13 q14 q15' q16' rfl rfl
      · rw [s15.live (upd_live e2 hn14 _)]; exact (upd_live e2 hn14 _).symm
      · rw [s15.live (upd_live e3 hn14 _)]; exact (upd_live e3 hn14 _).symm
      · rw [kAgg_a]
        have hL0 : upd g14 n14 (some (.cells zR .exact)) n14 = some (.cells zR .exact) := upd_same _ _ _
        have hL := s15.live hL0
        refine putR (gA := g14) (((Sub.refl g14).new hn14 _).trans s15) hn14 hL s16 oa ob (fun hm => by have := fa _ hm; rw [hL] at this; cases this) (fun hm => by have := fb _ hm; rw [hL] at this; cases this) (fun gX sX hX oa ob => ?_)
        exact j9 _ gX _ _ va vb sX hX oa ob (fun l hl => (((Sub.refl g14).new hn14 _).trans s15).none (fa l hl)) (fun l hl => (((Sub.refl g14).new hn14 _).trans s15).none (fb l hl)) q2 q3 q4 q8 q11 q13 q14 q15' q16' rfl rfl
    have j7 : ∀ t' : Env, t' 2 = vt → t' 3 = vx → t' 4 = ptr l4 0 → t' 8 = ptr l8 0 → t' 11 = v66 → t' 12 = vm → t' 13 = w → t' 14 = .int .i64 (i : Nat) → t' 15 = .int .i64 b.1 → t' 16 = .int .i64 b.2 → bellowsref28_Check_j7 AC K I t' g9 n9 := by
      intro t' q2 q3 q4 q8 q11 q12 q13 q14 q15 q16
      simp only [bellowsref28_Check_j7, q2, q15, q16]
      rw [kBin_lss]
      refine kSplit_d (fun hx0 => j8t _ (by unfold chk; rw [if_pos (.inl hx0)]) rfl q8 q14) (fun hx0 => ?_)
      refine hT9.len ?_
      rw [kBin_geq]
      refine kSplit_d (fun hx1 => j8t _ (by unfold chk; rw [if_pos (.inr (.inl hx1))]) rfl q8 q14) (fun hx1 => ?_)
      obtain ⟨c, hc⟩ : ∃ c : Nat, b.1 = (c : Int) := ⟨b.1.toNat, by omega⟩
      have hct : b.1.toNat = c := by omega
      have hgc : txs[c]? = some (txs[c]'(by omega)) := List.getElem?_eq_getElem (by omega)
      have hgd : txs.getD c [] = txs[c]'(by omega) := getD_of hgc
      generalize txs[c]'(by omega) = ts at hgc hgd
      have e2 : Value.int .i64 b.1 = .int .i64 (c : Nat) := by rw [hc]
      rw [e2]
      refine hT9.idx hgc (fun l o cc ha hcz hx => ?_)
      obtain ⟨vr, rfl, hr⟩ := hx
      rw [kPtr_p]
      refine ha.ld (i := 0) rfl (hr.len ?_)
      rw [kBin_geq]
      by_cases hkl : (ts.length : Int) ≤ b.2
      · refine j8t _ (by unfold chk; rw [if_pos]; rw [hct, hgd]; exact .inr (.inr hkl)) ?_ q8 q14
        show Value.bool (decide _) = _
        rw [decide_eq_true hkl]
      · refine j8 _ hx0 hx1 (by rw [hct, hgd]; exact hkl) ?_ q2 q3 q4 q8 q11 q12 q13 q14 q15 q16
        show Value.bool (decide _) = _
        rw [decide_eq_false hkl]
    exact j7 _ t2 t3 t4 t8 t11 t12 t13 t14 rfl rfl
  · have hje : bs0.drop i = [] := List.drop_eq_nil_of_le (by omega)
    rw [hje] at hres hresL
    have e1 : chk h xs txs [] i cm = ((i : Int), (0 : Int)) := rfl
    rw [e1] at hres hresL
    rw [if_pos rfl] at hresL
    simp only [steps, List.append_nil] at hresL
    have ei : i = bs0.length := by omega
    have j10 : ∀ t' : Env, t' 8 = ptr l8 0 → t' 11 = v66 → t' 13 = w → bellowsref28_Check_j12 AC K t' g9 n9 := by
      intro t' q8 q11 q13
      simp only [bellowsref28_Check_j12, q8, q11, q13, kPtr_p, kAgg_a]
      refine hB9.len (fillX2 hBS.isCell _ ?_)
      rw [← hres, ← hresL, ei] at hK
      exact exitL (s0.trans sB) h0 (hgB.live h8B) hBS hK
    exact j10 _ t8 t11 t13
end Go.Proofs.Ytldlimkjhppjbaa.Gen

namespace Go.Proofs.Ytldlimkjhppjbaa.Gen
open Go Go.Proofs.Ytldlimkjhppjbaa.Abs Go.RowKit
variable {g : G} {n : Nat}
def stepsR (h : Hp) (m : List Int) (txs : List (List TxT)) (xs : List Ev) : List StepT := if (checkR h m txs xs).2 = 0 then steps h xs txs (begH h xs) m else []
set_option maxRecDepth 100000 in
set_option maxHeartbeats 2000000 in
theorem rCheckL {h : Hp} {xs : List Ev} {txs : List (List TxT)} {vm vt vx : Value} {m : List Int} (hm : Sl encW 1 g vm m) (hml : m.length ≤ 1000) (hT : SlR TsC 1 g vt txs) (hF : Fair27 txs) (hv : Sl encE 5 g vx xs) (hcap : Cap vx 5) (hlen : xs.length < 1000000) {K : Cont}
    (hK : ∀ vl g' n', Sub g g' → SlR StepC 7 g' vl (stepsR h m txs xs) → K (.agg ([vl, .int .i64 (checkR h m txs xs).1, .int .i64 (checkR h m txs xs).2] : List Value).toArray) g' n') : AC bellowsref28_Check_id [.agg (encH h).toArray, vm, vt, vx] g n K := by
  refine ACalls.fold X0_mono ?_
  rw [← bellowsref28_Check_eq]
  simp only [bellowsref28_Check, kAgg_a]
  intro hn
  have s1 := (Sub.refl g).new hn (some (.cells (encH h) .exact))
  have hb1 : upd g n (some (.cells (encH h) .exact)) n = some (.cells (encH h) .exact) := upd_same _ _ _
  generalize upd g n (some (.cells (encH h) .exact)) = g1 at s1 hb1
  intro hn1
  have h0 : g (n + 1) = none := s1.none hn1
  have s2 := (Sub.refl g1).new hn1 (some (.cells zC .exact))
  have h82 : upd g1 (n + 1) (some (.cells zC .exact)) (n + 1) = some (.cells zC .exact) := upd_same _ _ _
  generalize upd g1 (n + 1) (some (.cells zC .exact)) = g2 at s2 h82
  have hb2 := s2.live hb1
  have s02 := s1.trans s2
  have no : ∀ {a e : Int} (gx : G) (n' : Nat), Sub g2 gx → checkR h m txs xs = (a, e) → e ≠ 0 → ([.slice none 0 0, .int .i64 a, .int .i64 e] : List Value).length = 3 ∧ kStN gx (n + 1) 0 [.slice none 0 0, .int .i64 a, .int .i64 e] fun g' => kLdN g' (n + 1) 0 3 fun r0 => aRet K (.agg r0.toArray) g' n' := fun {a e} gx n' sx hc he => by
    refine exit0 (s02.trans sx) h0 (sx.live h82) ?_
    have e1 : stepsR h m txs xs = [] := by unfold stepsR; rw [if_neg (by rw [hc]; exact he)]
    rw [e1, hc] at hK
    exact hK
  have j1t : ∀ (t : Env) (gx : G) (n' : Nat), Sub g2 gx → checkR h m txs xs = (0, 1) → t 37 = .bool true → t 8 = ptr (n + 1) 0 → bellowsref28_Check_j1 AC K t gx n' := by
    intro t gx n' sx hc q37 q8
    simp only [bellowsref28_Check_j1, q37, q8, kPtr_p, kAgg_a]
    exact kSplit_t rfl (fillX1 _ (no gx n' sx hc (by decide)))
  refine ldH hb2 (rGoodH_spec fun g3 n3 s3 => ?_)
  have s03 := s02.trans s3
  rw [kUn_not]
  by_cases hG : GoodH h
  · refine kSplit_f (by simp [hG]) ((hm.mono s03).len (ldH (s3.live hb2) (rWds_spec fun g5 n5 s5 => ?_)))
    have s35 := s3.trans s5
    have s05 := s02.trans s35
    rw [kBin_neq]
    refine kSplit_d (fun hc => ?_) (fun hc => ?_)
    · refine j1t _ _ _ s35 ?_ rfl rfl
      unfold checkR; rw [if_neg (fun ⟨_, h2, _⟩ => hc h2)]
    have hT5 := hT.mono (fun c x h => TsC.mono s05 c x h) s05
    refine hT5.len (kLd_of (s35.live hb2) rfl ?_)
    rw [kBin_neq]
    by_cases hc2 : (txs.length : Int) = h.cores
    · have hcond : GoodH h ∧ (m.length : Int) = wordsH h ∧ (txs.length : Int) = h.cores := ⟨hG, Classical.byContradiction hc, hc2⟩
      have hm0 : 0 < m.length := by
        have h2 := hcond.2.1
        unfold wordsH at h2; rw [if_pos hG] at h2
        obtain ⟨_, _, _, h3, _⟩ := hG
        omega
      have h10 := hF.1
      have j1f : ∀ t : Env, t 37 = .bool false → t 1 = vm → t 2 = vt → t 3 = vx → t 4 = ptr n 0 → t 8 = ptr (n + 1) 0 → bellowsref28_Check_j1 AC K t g5 n5 := by
        intro t q37 q1 q2 q3 q4 q8
        simp only [bellowsref28_Check_j1, q37]
        refine kSplit_f rfl ?_
        refine lfp_ind (m := txs.length) (Inv := fun mm e g6 n6 => ∃ j : Nat, mm + j = txs.length ∧ e 1 = vm ∧ e 2 = vt ∧ e 3 = vx ∧ e 4 = ptr n 0 ∧ e 8 = ptr (n + 1) 0 ∧ e 9 = .int .i64 (j : Nat) ∧ Sub g5 g6 ∧ ∀ ts ∈ txs.take j, ∀ t ∈ ts, GoodT t.ops) ?_ ⟨0, by omega, q1, q2, q3, q4, q8, rfl, Sub.refl _, by simp⟩
        rintro I mm e g6 n6 ih ⟨j, hmm, e1, e2, e3, e4, e8, e9, s6, hall⟩
        have s06 := s05.trans s6
        have hT6 := hT.mono (fun c x h => TsC.mono s06 c x h) s06
        simp only [bellowsref28_Check_l2, e2, e9]
        refine hT6.len ?_
        rw [kBin_lss]
        refine kSplit_d (fun hj => ?_) (fun hj => ?_)
        · have hj : j < txs.length := by omega
          have hget : txs[j]? = some txs[j] := List.getElem?_eq_getElem hj
          generalize txs[j] = ts at hget
          have hts := hF.2 ts (List.mem_of_getElem? hget)
          have h12 := hts.1
          refine lfp_ind (m := ts.length) (Inv := fun m2 e g7 n7 => ∃ k : Nat, m2 + k = ts.length ∧ e 1 = vm ∧ e 2 = vt ∧ e 3 = vx ∧ e 4 = ptr n 0 ∧ e 8 = ptr (n + 1) 0 ∧ e 9 = .int .i64 (j : Nat) ∧ e 10 = .int .i64 (k : Nat) ∧ Sub g6 g7 ∧ ∀ t ∈ ts.take k, GoodT t.ops) ?_ ⟨0, by omega, e1, e2, e3, e4, e8, e9, rfl, Sub.refl _, by simp⟩
          rintro I2 m2 e g7 n7 ih2 ⟨k, hm2, e1, e2, e3, e4, e8, e9, e10, s7, hall2⟩
          simp only [bellowsref28_Check_l3, e2, e8, e9, e10, kPtr_p, kAgg_a]
          refine hT6.idx hget (fun l o c ha hc hx => ?_)
          obtain ⟨vr, rfl, hr⟩ := hx
          rw [kPtr_p]
          refine (ha.mono s7).ld (i := 0) rfl (hr.len ?_)
          rw [kBin_lss]
          refine kSplit_d (fun hk => ?_) (fun hk => ?_)
          · have hk : k < ts.length := by omega
            have hgk : ts[k]? = some ts[k] := List.getElem?_eq_getElem hk
            generalize ts[k] = tx at hgk
            have hop := hts.2 tx (List.mem_of_getElem? hgk)
            refine hT6.idx hget (fun l o c ha hc hx => ?_)
            obtain ⟨vr, rfl, hr⟩ := hx
            rw [kPtr_p]
            refine (ha.mono s7).ld (i := 0) rfl (hr.idx hgk (fun l o c ha hc hx => ?_))
            obtain ⟨vo, rfl, ho⟩ := hx
            rw [kPtr_p]
            refine (ha.mono s7).ldN rfl (rGood_spec (ho.mono s7) (by omega) fun g8 n8 s8 => ?_)
            have s68 := s7.trans s8
            rw [kUn_not]
            by_cases hO : GoodT tx.ops
            · refine kSplit_f (by simp [hO]) ?_
              rw [kBin_add, wrap64_of (by omega) (by omega), show ((k : Nat) : Int) + 1 = ((k + 1 : Nat) : Int) by omega]
              refine ih2 (m2 - 1) _ _ _ (by omega) ⟨k + 1, by omega, e1, e2, e3, e4, e8, e9, rfl, s68, fun x hx => ?_⟩
              rw [take_add hgk] at hx
              rcases List.mem_append.1 hx with hx | hx
              · exact hall2 x hx
              · simp at hx; subst hx; exact hO
            · refine kSplit_t (by simp [hO]) (fillX1 _ ?_)
              have hno : ¬ AllGood txs := fun h => hO (h ts (List.mem_of_getElem? hget) tx (List.mem_of_getElem? hgk))
              refine no _ _ (s35.trans (s6.trans s68)) ?_ (by decide)
              unfold checkR; rw [if_pos hcond, if_neg hno]
          · rw [List.take_of_length_le (by omega)] at hall2
            have j4 : ∀ t : Env, t 1 = vm → t 2 = vt → t 3 = vx → t 4 = ptr n 0 → t 8 = ptr (n + 1) 0 → t 9 = .int .i64 (j : Nat) → bellowsref28_Check_j4 AC K I t g7 n7 := by
              intro t q1 q2 q3 q4 q8 q9
              simp only [bellowsref28_Check_j4, q9]
              rw [kBin_add, wrap64_of (by omega) (by omega), show ((j : Nat) : Int) + 1 = ((j + 1 : Nat) : Int) by omega]
              refine ih (mm - 1) _ _ _ (by omega) ⟨j + 1, by omega, q1, q2, q3, q4, q8, rfl, s6.trans s7, fun y hy => ?_⟩
              rw [take_add hget] at hy
              rcases List.mem_append.1 hy with hy | hy
              · exact hall y hy
              · simp at hy; subst hy; exact hall2
            exact j4 _ e1 e2 e3 e4 e8 e9
        · rw [List.take_of_length_le (by omega)] at hall
          have hb6 := (s35.trans s6).live hb2
          have j5 : ∀ t : Env, t 1 = vm → t 2 = vt → t 3 = vx → t 4 = ptr n 0 → t 8 = ptr (n + 1) 0 → bellowsref28_Check_j5 AC K t g6 n6 := by
            intro t q1 q2 q3 q4 q8
            simp only [bellowsref28_Check_j5, q1, q3, q4, kPtr_p]
            refine ldH hb6 (rBegins_spec (hv.mono s06) hcap hlen fun v66 g7 n7 s7 o66 f66 => ?_)
            have s07 := s06.trans s7
            have hcr : chk h xs txs (begH h xs) 0 m = checkR h m txs xs := by unfold checkR; rw [if_pos hcond, if_pos (show AllGood txs from hall)]
            refine rloopL (h := h) (xs := xs) (txs := txs) (m := m) (res := (stepsR h m txs xs, checkR h m txs xs)) (bs0 := begH h xs) (l8 := n + 1) (l4 := n) s07 h0 ((s35.trans (s6.trans s7)).live h82) (s7.live hb6) (hT.mono (fun c x h => TsC.mono s07 c x h) s07) o66.sl (hv.mono s07) hcap hall begH_told hlen (by have := begH_len h xs; omega) (by omega) hm0 hml hK (begH h xs).length _ g7 n7
              ⟨0, .slice none 0 0, [], vm, m, by omega, q2, q3, q4, q8, rfl, rfl, rfl, rfl, ?_, ?_, BS.nil, rfl, rfl, ?_, ?_⟩
            · have : hideV g7 (.slice none 0 0) = g7 := by funext l; unfold hideV; rw [if_neg (by simp [blks, blkOf])]
              rw [this]; exact Sub.refl _
            · have : hideV g7 (.slice none 0 0) = g7 := by funext l; unfold hideV; rw [if_neg (by simp [blks, blkOf])]
              rw [this]; exact hm.mono s07
            · rw [List.drop_zero]; exact hcr
            · rw [List.drop_zero, hcr, List.nil_append]; rfl
          exact j5 _ e1 e2 e3 e4 e8
      refine j1f _ ?_ rfl rfl rfl rfl rfl
      show Value.bool (decide _) = _
      rw [decide_eq_false (by simp [hc2])]
    · refine j1t _ _ _ s35 ?_ ?_ rfl
      · unfold checkR; rw [if_neg (fun ⟨_, _, h3⟩ => hc2 h3)]
      · show Value.bool (decide _) = _
        rw [decide_eq_true hc2]
  · refine kSplit_t (by simp [hG]) (j1t _ _ _ s3 ?_ rfl rfl)
    unfold checkR; rw [if_neg (fun ⟨h1, _⟩ => hG h1)]
end Go.Proofs.Ytldlimkjhppjbaa.Gen

namespace Go.Proofs.Ytldlimkjhppjbaa.Gen
open Go Go.Proofs.Ytldlimkjhppjbaa.Abs Go.RowKit
variable {g : G} {n : Nat}
theorem Taken_spec {va vb : Value} {tl : List Int} (hb : Sl encW 1 g vb tl) (h0 : tl ≠ []) (hl : tl.length < 1000000) {K : Cont} (hK : ∀ g' n', Sub g g' → K (.bool (decide (¬ com tl))) g' n') : AC bellowsref26_Ran_Taken_id [.agg (rCells va vb).toArray] g n K := by
  refine ACalls.fold X0_mono ?_
  rw [← bellowsref26_Ran_Taken_eq]
  simp only [bellowsref26_Ran_Taken, kAgg_a]
  intro hn
  have s1 := (Sub.refl g).new hn (some (.cells (rCells va vb) .exact))
  have hb1 : upd g n (some (.cells (rCells va vb) .exact)) n = some (.cells (rCells va vb) .exact) := upd_same _ _ _
  generalize upd g n (some (.cells (rCells va vb) .exact)) = g1 at s1 hb1
  have hb' := hb.mono s1
  have hp : 0 < tl.length := by rcases tl with _ | _; exact absurd rfl h0; simp
  refine kLd_of hb1 rfl (hb'.len ?_)
  rw [kBin_eql]
  refine kSplit_f (by simp; exact h0) (kLd_of hb1 rfl (kLd_of hb1 rfl (hb'.len ?_)))
  rw [kBin_sub, wrap64_of (by omega) (by omega), show ((tl.length : Nat) : Int) - 1 = ((tl.length - 1 : Nat) : Int) by omega]
  have hlast : tl[tl.length - 1]? = some (tl.getD (tl.length - 1) 0) := by
    rw [List.getD_eq_getElem?_getD, List.getElem?_eq_getElem (by omega)]; rfl
  refine hb'.idx encW_len hlast (fun l o ha => ?_)
  rw [kPtr_p]
  refine ha.ld (i := 0) rfl ?_
  rw [kBin_neq]
  exact aRet_of (Sub.refl _) (hK _ _ s1)
def mapsP (p : PastT) : List (List Int) := match p.2.2 with | none => [p.2.1] | some y => [p.2.1, y]
abbrev zM : List Value := [.slice none 0 0, .slice none 0 0, .int .i64 0]
theorem zM_no : ∀ c ∈ zM, ∀ i : Int, c ≠ .int .u64 i := by simp [zM]
theorem may_exit {l8 l10 : Nat} {g0 gO gx : G} {vs vmp : Value} {ss : List Int} {maps : List (List Int)} {K : Cont} (s0 : Sub g0 gO) (h0 : g0 l8 = none) (h8 : gO l8 = some (.cells zM .exact)) (hP : Pst gO gx l10 vs [.slice none 0 0, .int .i64 0] ss) (hcell : Abs.isCell vmp = true)
    (hM : ∀ g', (∀ v (x : List Int), Sl encW 1 gx v x → Sl encW 1 g' v x) → (∀ l b, gx l = some b → l ≠ l8 → l ≠ l10 → g' l = some b) → SlR MapC 1 g' vmp maps)
    (hK : ∀ vs vmp g' n', Sub g0 g' → Sl encZ 1 g' vs ss → SlR MapC 1 g' vmp maps → K (.agg ([vs, vmp, .int .i64 0] : List Value).toArray) g' n') :
    kSt gx l10 (0 + 1) vmp fun g' => kLdN g' l10 0 3 fun c => c.length = 3 ∧ kStN g' l8 0 c fun g'' => kLdN g'' l8 0 3 fun r => aRet K (.agg r.toArray) g'' n := by
  obtain ⟨a, k, c, evs⟩ := OwnS.slv hP.hs
  have no10 : ∀ c ∈ [vs, .slice none 0 0, .int .i64 0], ∀ i : Int, c ≠ .int .u64 i := by rw [evs]; simp
  have hP' := hP.set (rest' := [vmp, .int .i64 0])
  have n8 : l8 ∉ blks vs := fun hm => by rw [hP.fr _ hm] at h8; cases h8
  refine kSt_of hP.hb rfl (by simp) hcell (kLdN_of hP'.hb (by simp) ?_)
  have h8' := hP'.sub.live h8
  refine ⟨by simp, kStN_of h8' rfl (by simp) (by simp [hP.hs.isCell, hcell]; rfl) (kLdN_of (upd_same _ _ _) (by simp [splice]) (aRet_of (Sub.refl _) ?_))⟩
  refine hK vs vmp _ _ (fun l => ?_) ((hP'.hs.keepB fun l b h1 h2 => by rw [upd_ne _ _ (fun e : l = l8 => n8 (e ▸ h2))]; exact h1).sl) (hM _ (fun v x hx => ?_) (fun l b h1 h2 h3 => ?_))
  · by_cases e : l = l8
    · subst e; exact .inl h0
    · rw [upd_ne _ _ e]; exact (s0.trans hP'.sub) l
  · exact Sl.updW (Sl.updW hx hP.hb no10) h8' zM_no
  · rw [upd_ne _ _ h2, upd_ne _ _ h3]; exact h1
set_option maxHeartbeats 4000000 in
theorem may_loop {L : List StepT} {vl : Value} {l8 l9 l10 : Nat} {at9 : Int} {g0 gB : G} {m : List Int} {K : Cont} {res : PastT}
    (s0 : Sub g0 gB) (h0 : g0 l8 = none) (h8 : gB l8 = some (.cells zM .exact)) (h9b : gB l9 = some (.cells [vl, .int .i64 at9, .int .i64 0] .exact)) (hL : SlR StepC 7 gB vl L)
    (hLl : L.length < 1000000) (hLs : ∀ s ∈ L, s.out.length = m.length ∧ s.tells ≠ [] ∧ s.tells.length < 1000000 ∧ s.told.length < 1000000) (hml0 : 0 < m.length) (hml : m.length ≤ 1000)
    (hK : ∀ vs vmp g' n', Sub g0 g' → Sl encZ 1 g' vs res.1 → SlR MapC 1 g' vmp (mapsP res) → K (.agg ([vs, vmp, .int .i64 0] : List Value).toArray) g' n') (mm : Nat) (t : Env) (g9 : G) (n9 : Nat)
    (h9 : ∃ (i : Nat) (vs vm : Value) (ss cm : List Int) (gO : G), mm + i = L.length ∧ t 8 = ptr l8 0 ∧ t 9 = ptr l9 0 ∧ t 10 = ptr l10 0 ∧ t 11 = vm ∧ t 12 = .int .i64 (i : Nat) ∧ Sub gB gO ∧ Pst gO g9 l10 vs [.slice none 0 0, .int .i64 0] ss ∧ Sl encW 1 gO vm cm ∧ cm.length = m.length ∧ ss.length ≤ i ∧ pstL (L.drop i) i ss cm = res) :
    lfp (bellowsref29_May_l1 AC K) t g9 n9 := by
  refine lfp_ind (m := mm) (Inv := fun mm t g9 n9 => ∃ (i : Nat) (vs vm : Value) (ss cm : List Int) (gO : G), mm + i = L.length ∧ t 8 = ptr l8 0 ∧ t 9 = ptr l9 0 ∧ t 10 = ptr l10 0 ∧ t 11 = vm ∧ t 12 = .int .i64 (i : Nat) ∧ Sub gB gO ∧ Pst gO g9 l10 vs [.slice none 0 0, .int .i64 0] ss ∧ Sl encW 1 gO vm cm ∧ cm.length = m.length ∧ ss.length ≤ i ∧ pstL (L.drop i) i ss cm = res) ?_ h9
  clear h9
  rintro I mm t g9 n9 ih ⟨i, vs, vm, ss, cm, gO, hm, t8, t9, t10, t11, t12, hgB, hP, hvm, hcl, hsl, hres⟩
  have sB9 := hgB.trans hP.sub
  have hb9 := sB9.live h9b
  have hL9 := hL.mono (fun c x h => StepC.mono c x sB9 h) sB9
  have hLO := hL.mono (fun c x h => StepC.mono c x hgB h) hgB
  simp only [bellowsref29_May_l1, t9, t12, kPtr_p]
  refine kLd_of hb9 rfl (hL9.len ?_)
  rw [kBin_lss]
  refine kSplit_d (fun hj => ?_) (fun hj => ?_)
  · have hj : i < L.length := by omega
    have hget : L[i]? = some L[i] := List.getElem?_eq_getElem hj
    generalize L[i] = s at hget
    obtain ⟨hso, hst, hstl, hsdl⟩ := hLs s (List.mem_of_getElem? hget)
    rw [drop_get hget] at hres
    refine kLd_of hb9 rfl (hLO.idx hget (fun l o c ha hc hx => ?_))
    obtain ⟨a, b, va, vb, e, d, rfl, haO, hb1, he1⟩ := hx
    have ha1 := haO.mono hP.sub
    have hb1 := hb1.mono hP.sub
    have he1 := he1.mono hP.sub
    rw [kPtr_p]
    refine (ha.mono hP.sub).ldN rfl (fun hn9 => ?_)
    show kAgg _ _
    rw [kAgg_a]
    have hcv : ∀ v ∈ [.int .i64 a, .int .i64 b, va, vb, .int .i64 0, e, .bool d], Abs.isCell v = true := by simp [Sl.isCell ha1, Sl.isCell hb1, Sl.isCell he1]; exact ⟨rfl, rfl, rfl, rfl⟩
    refine ⟨rfl, kStN_of (upd_same _ _ _) rfl (by simp) hcv ?_⟩
    rw [upd_upd]
    have e1 : splice [(.int .i64 0), (.int .i64 0), (.slice none 0 0), (.slice none 0 0), (.int .i64 0), (.slice none 0 0), (.bool false)] 0 [.int .i64 a, .int .i64 b, va, vb, .int .i64 0, e, .bool d] = [.int .i64 a, .int .i64 b, va, vb, .int .i64 0, e, .bool d] := splice_all rfl
    rw [e1]
    have s10 := (Sub.refl g9).new hn9 (some (.cells [.int .i64 a, .int .i64 b, va, vb, .int .i64 0, e, .bool d] .exact))
    have hb10 : upd g9 n9 (some (.cells [.int .i64 a, .int .i64 b, va, vb, .int .i64 0, e, .bool d] .exact)) n9 = some (.cells [.int .i64 a, .int .i64 b, va, vb, .int .i64 0, e, .bool d] .exact) := upd_same _ _ _
    generalize upd g9 n9 (some (.cells [.int .i64 a, .int .i64 b, va, vb, .int .i64 0, e, .bool d] .exact)) = g10 at s10 hb10
    have j2 : ∀ (t' : Env) (x : Bool), (x = true ↔ (L.drop (i + 1) ≠ [] ∨ s.told.length = s.tells.length)) → t' 14 = .bool x → t' 13 = ptr n9 0 → t' 8 = ptr l8 0 → t' 9 = ptr l9 0 → t' 10 = ptr l10 0 → t' 11 = vm → t' 12 = .int .i64 (i : Nat) → bellowsref29_May_j2 AC K I t' g10 (n9 + 1) := by
      intro t' x hx q14 q13 q8 q9 q10 q11 q12
      simp only [bellowsref29_May_j2, q14, q13, q10, q11, q12, kPtr_p, kFill_nil]
      refine kLdN_of hb10 (by simp) ?_
      have sB10 := sB9.trans s10
      refine Taken_spec (va := va) (vb := vb) (hb1.mono s10) hst hstl (fun g11 n11 s11 => ?_)
      have s911 := s10.trans s11
      obtain ⟨hPX, hOX⟩ := hP.next s911
      have hb11 := s11.live hb10
      have hva11 := ha1.mono s911
      have hvm11 := (hvm.mono hP.sub).mono s911
      unfold pstL at hres
      refine kSplit_d (fun hc => ?_) (fun hc => ?_)
      · rw [if_neg hc] at hres
        simp only [bellowsref29_May_j3]
        show kBin .int .add (t' 12) _ _
        rw [q12, kBin_add, wrap64_of (by omega) (by omega), show ((i : Nat) : Int) + 1 = ((i + 1 : Nat) : Int) by omega]
        exact ih (mm - 1) _ _ _ (by omega) ⟨i + 1, vs, vm, ss, cm, hid g11 l10 vs, by omega, q8, q9, q10, q11, rfl, hgB.trans hOX, hPX, hvm.mono hOX, hcl, by omega, hres⟩
      · have hc : com s.tells := Classical.byContradiction hc
        rw [if_pos hc] at hres
        rw [kUn_not]
        cases x with
        | false =>
          rw [if_neg (fun hh => by have := hx.2 hh; cases this)] at hres
          subst hres
          refine kSplit_t rfl (kLd_of hb11 rfl ?_)
          have h8O := (hgB.trans hOX).live h8
          -- the end
          have fin : ∀ {t' : Env} {v63 v68 : Value} {g15 : G} {n15 : Nat}, Sub g11 g15 → Sl encW 1 g15 v63 cm → Sl encW 1 g15 v68 s.out → t' 8 = ptr l8 0 → t' 10 = ptr l10 0 → ∀ hn15 : g15 n15 = none, kSt (upd g15 n15 (some (.cells [v63, v68] .exact))) l10 (0 + 1) (.slice (some ⟨n15, 0, none⟩) 2 2) fun g17 => bellowsref29_May_j4 AC K I t' g17 (n15 + 1) := by
            intro t' v63 v68 g15 n15 s15 h63 h68 q8 q10 hn15
            have s16 := (Sub.refl g15).new hn15 (some (.cells [v63, v68] .exact))
            have hb16 : upd g15 n15 (some (.cells [v63, v68] .exact)) n15 = some (.cells [v63, v68] .exact) := upd_same _ _ _
            have n8 : n15 ≠ l8 := fun e => by rw [e, (hPX.sub.trans s15).live h8O] at hn15; cases hn15
            have n10 : n15 ≠ l10 := fun e => by rw [e, s15.live hPX.hb] at hn15; cases hn15
            generalize upd g15 n15 (some (.cells [v63, v68] .exact)) = g16 at s16 hb16
            obtain ⟨hP16, hO16⟩ := hPX.next (s15.trans s16)
            simp only [bellowsref29_May_j4, q8, q10, kPtr_p, kAgg_a]
            exact may_exit ((s0.trans hgB).trans (hOX.trans hO16)) h0 (hO16.live h8O) hP16 rfl (fun g' hW hk => maps2 (hk _ _ hb16 n8 n10) (hW _ _ (h63.mono s16)) (hW _ _ (h68.mono s16))) hK
          refine ⟨fun hn11 => ?_, fun hn11 => ?_⟩
          · have sa := (Sub.refl g11).new hn11 (some (.cells (reps 0 [.int .u64 0]) .exact))
            generalize upd g11 n11 (some (.cells (reps 0 [.int .u64 0]) .exact)) = ga at sa
            refine ⟨(sa.live hb11).trans hb11.symm, appE (hvm11.mono sa) encW_cell (by decide) (by omega) (fun v63 gb nb sb h63 => ⟨(sb.live (sa.live hb11)).trans (sa.live hb11).symm, fun hnb => ?_⟩), fun hn12 => ?_⟩
            · have sc := (Sub.refl gb).new hnb (some (.cells (reps 0 [.int .u64 0]) .exact))
              generalize upd gb nb (some (.cells (reps 0 [.int .u64 0]) .exact)) = gc at sc
              refine ⟨(sc.live (sb.live (sa.live hb11))).trans (sb.live (sa.live hb11)).symm, appE (hva11.mono (sa.trans (sb.trans sc))) encW_cell (by decide) (by omega) (fun v68 gd nd sd h68 => ?_)⟩
              refine fillM2 (Sl.isCell h63) (Sl.isCell h68) _ (fun hnd => ?_)
              exact fin (sa.trans (sb.trans (sc.trans sd))) (h63.mono (sc.trans sd)) h68 q8 q10 hnd
            · have sc := (Sub.refl ga).new hn12 (some (.cells (reps 0 [.int .u64 0]) .exact))
              generalize upd ga (n11 + 1) (some (.cells (reps 0 [.int .u64 0]) .exact)) = gc at sc
              refine ⟨(sc.live (sa.live hb11)).trans (sa.live hb11).symm, appE (hvm11.mono (sa.trans sc)) encW_cell (by decide) (by omega) (fun v63 gb nb sb h63 => ⟨(sb.live (sc.live (sa.live hb11))).trans (sc.live (sa.live hb11)).symm, ?_⟩)⟩
              refine appE (hva11.mono (sa.trans (sc.trans sb))) encW_cell (by decide) (by omega) (fun v68 gd nd sd h68 => ?_)
              refine fillM2 (Sl.isCell h63) (Sl.isCell h68) _ (fun hnd => ?_)
              exact fin (sa.trans (sc.trans (sb.trans sd))) (h63.mono sd) h68 q8 q10 hnd
          · have sa := (Sub.refl g11).new hn11 (some (.cells (reps 0 [.int .u64 0]) .exact))
            generalize upd g11 n11 (some (.cells (reps 0 [.int .u64 0]) .exact)) = ga at sa
            refine ⟨(sa.live hb11).trans hb11.symm, fun hn12 => ?_⟩
            have sc := (Sub.refl ga).new hn12 (some (.cells (reps 0 [.int .u64 0]) .exact))
            generalize upd ga (n11 + 1) (some (.cells (reps 0 [.int .u64 0]) .exact)) = gc at sc
            refine ⟨(sc.live (sa.live hb11)).trans (sa.live hb11).symm, appE (hvm11.mono (sa.trans sc)) encW_cell (by decide) (by omega) (fun v63 gb nb sb h63 => ⟨(sb.live (sc.live (sa.live hb11))).trans (sc.live (sa.live hb11)).symm, ?_⟩)⟩
            refine appE (hva11.mono (sa.trans (sc.trans sb))) encW_cell (by decide) (by omega) (fun v68 gd nd sd h68 => ?_)
            refine fillM2 (Sl.isCell h63) (Sl.isCell h68) _ (fun hnd => ?_)
            exact fin (sa.trans (sc.trans (sb.trans sd))) (h63.mono sd) h68 q8 q10 hnd
        | true =>
          rw [if_pos (hx.1 rfl)] at hres
          refine kSplit_f rfl (kLd_of hPX.hb rfl ⟨rfl, by simp [reps], ?_⟩)
          intro hn13
          refine hPX.one (i := (i : Int)) hn13 (by omega) (fun v' g' n' hP' => ?_)
          -- the step's words
          have hva' : g' n9 = some (.cells [.int .i64 a, .int .i64 b, va, vb, .int .i64 0, e, .bool d] .exact) := hP'.sub.live (hid_live hb11 (fun e => by rw [e, hP.hb] at hn9; cases hn9) (fun hm => by
            have hne : ss ≠ [] := fun e => by rw [hP.nl e] at hm; cases hm
            obtain ⟨b', hb'⟩ := hP.hs.there _ hm (by simp [hne])
            rw [hn9] at hb'; cases hb'))
          refine kLd_of hva' rfl ?_
          simp only [bellowsref29_May_j3]
          show kBin .int .add (t' 12) _ _
          rw [q12, kBin_add, wrap64_of (by omega) (by omega), show ((i : Nat) : Int) + 1 = ((i + 1 : Nat) : Int) by omega]
          exact ih (mm - 1) _ _ _ (by omega) ⟨i + 1, v', va, ss ++ [(i : Int)], s.out, hid g11 l10 vs, by omega, q8, q9, q10, rfl, rfl, hgB.trans hOX, hP', haO.mono hOX, by omega, by simp; omega, hres⟩
    refine kLd_of (s10.live hb9) rfl ((hL9.mono (fun c x h => StepC.mono c x s10 h) s10).len ?_)
    rw [kBin_sub, wrap64_of (by omega) (by omega), kBin_lss]
    refine kSplit_d (fun hl => ?_) (fun hl => ?_)
    · refine j2 _ true ⟨fun _ => .inl fun e => ?_, fun _ => rfl⟩ rfl rfl t8 t9 t10 t11 t12
      have := congrArg List.length e
      rw [List.length_drop] at this; simp at this; omega
    · have hnil : L.drop (i + 1) = [] := List.drop_eq_nil_of_le (by omega)
      refine kLd_of hb10 rfl ((he1.mono s10).len (kLd_of hb10 rfl ((hb1.mono s10).len ?_)))
      rw [kBin_eql]
      refine j2 _ (decide ((s.told.length : Int) = s.tells.length)) ?_ rfl rfl t8 t9 t10 t11 t12
      rw [decide_eq_true_eq, hnil]
      constructor
      · intro h; right; omega
      · rintro (h | h)
        · exact absurd rfl h
        · omega
  · have hje : L.drop i = [] := List.drop_eq_nil_of_le (by omega)
    rw [hje] at hres
    have hres : (ss, cm, none) = res := hres
    subst hres
    have h8O := hgB.live h8
    have j5 : ∀ t' : Env, t' 8 = ptr l8 0 → t' 10 = ptr l10 0 → t' 11 = vm → bellowsref29_May_j5 AC K t' g9 n9 := by
      intro t' q8 q10 q11
      simp only [bellowsref29_May_j5, q8, q10, q11, kPtr_p, kFill_nil, kAgg_a]
      intro hn9
      have sa := (Sub.refl g9).new hn9 (some (.cells (reps 0 [.int .u64 0]) .exact))
      generalize upd g9 n9 (some (.cells (reps 0 [.int .u64 0]) .exact)) = ga at sa
      refine appE ((hvm.mono hP.sub).mono sa) encW_cell (by decide) (by omega) (fun v63 gb nb sb h63 => fillM1 (Sl.isCell h63) _ (fun hnb => ?_))
      have sab := sa.trans sb
      have s16 := (Sub.refl gb).new hnb (some (.cells [v63] .exact))
      have hb16 : upd gb nb (some (.cells [v63] .exact)) nb = some (.cells [v63] .exact) := upd_same _ _ _
      have n8 : nb ≠ l8 := fun e => by rw [e, (hP.sub.trans sab).live h8O] at hnb; cases hnb
      have n10 : nb ≠ l10 := fun e => by rw [e, sab.live hP.hb] at hnb; cases hnb
      generalize upd gb nb (some (.cells [v63] .exact)) = g16 at s16 hb16
      obtain ⟨hP16, hO16⟩ := hP.next (sab.trans s16)
      exact may_exit ((s0.trans hgB).trans hO16) h0 (hO16.live h8O) hP16 rfl (fun g' hW hk => maps1 (hk _ _ hb16 n8 n10) (hW _ _ (h63.mono s16))) hK
    exact j5 _ t8 t10 t11
end Go.Proofs.Ytldlimkjhppjbaa.Gen

namespace Go.Proofs.Ytldlimkjhppjbaa.Gen
open Go Go.Proofs.Ytldlimkjhppjbaa.Abs Go.RowKit
variable {g : G} {n : Nat}
theorem steps_tl {h : Hp} {xs : List Ev} {txs : List (List TxT)} (hA : AllGood txs) : ∀ (bs : List (Int × Int)) (m : List Int), ∀ s ∈ steps h xs txs bs m, s.tells.length < 1000000 ∧ s.told.length ≤ xs.length
  | [], _, s, hs => by simp [steps] at hs
  | b :: bs, m, s, hs => by
    simp only [steps, List.mem_cons] at hs
    rcases hs with rfl | hs
    · refine ⟨?_, (toldH_lens (h := h) (c := b.1) (xs := xs) (k := b.2.toNat)).2⟩
      have h1 := runTx_tl (roomH h) (txAt txs b.1.toNat b.2.toNat) m
      have h2 : (txAt txs b.1.toNat b.2.toNat).ops.length ≤ 16 := by
        unfold txAt
        rw [List.getD_eq_getElem?_getD, List.getD_eq_getElem?_getD]
        cases hq : txs[b.1.toNat]? with
        | none => simp
        | some ts =>
          simp only [Option.getD_some]
          cases hq2 : ts[b.2.toNat]? with
          | none => simp
          | some tx => exact (hA ts (List.mem_of_getElem? hq) tx (List.mem_of_getElem? hq2)).1
      simp only; omega
    · exact steps_tl hA bs _ s hs
theorem checkR_ok {h : Hp} {m : List Int} {txs : List (List TxT)} {xs : List Ev} (h0 : (checkR h m txs xs).2 = 0) : (GoodH h ∧ (m.length : Int) = wordsH h ∧ (txs.length : Int) = h.cores) ∧ AllGood txs ∧ (chk h xs txs (begH h xs) 0 m).2 = 0 := by
  unfold checkR at h0
  split at h0
  · rename_i h1
    split at h0
    · rename_i h2; exact ⟨h1, h2, h0⟩
    · cases h0
  · cases h0
set_option maxHeartbeats 2000000 in
theorem rMay_spec {h : Hp} {xs : List Ev} {txs : List (List TxT)} {vm vt vx : Value} {m : List Int} (hm : Sl encW 1 g vm m) (hml : m.length ≤ 1000) (hT : SlR TsC 1 g vt txs) (hF : Fair27 txs) (hv : Sl encE 5 g vx xs) (hcap : Cap vx 5) (hlen : xs.length < 1000000) {K : Cont}
    (hK : ∀ vs vmp g' n', Sub g g' → Sl encZ 1 g' vs (ofR h m txs xs).1 → SlR MapC 1 g' vmp (mapsR h m txs xs) → K (.agg ([vs, vmp, .int .i64 (checkR h m txs xs).2] : List Value).toArray) g' n') : AC bellowsref29_May_id [.agg (encH h).toArray, vm, vt, vx] g n K := by
  refine ACalls.fold X0_mono ?_
  rw [← bellowsref29_May_eq]
  simp only [bellowsref29_May, kAgg_a]
  intro hn
  have s1 := (Sub.refl g).new hn (some (.cells (encH h) .exact))
  have hb1 : upd g n (some (.cells (encH h) .exact)) n = some (.cells (encH h) .exact) := upd_same _ _ _
  generalize upd g n (some (.cells (encH h) .exact)) = g1 at s1 hb1
  intro hn1
  have h0 : g (n + 1) = none := s1.none hn1
  have s2 := (Sub.refl g1).new hn1 (some (.cells zM .exact))
  have h82 : upd g1 (n + 1) (some (.cells zM .exact)) (n + 1) = some (.cells zM .exact) := upd_same _ _ _
  generalize upd g1 (n + 1) (some (.cells zM .exact)) = g2 at s2 h82
  have hb2 := s2.live hb1
  have s02 := s1.trans s2
  refine ldH hb2 (rCheckL (hm.mono s02) hml (hT.mono (fun c x h => TsC.mono s02 c x h) s02) hF (hv.mono s02) hcap hlen fun vl g3 n3 s3 hL => ?_)
  have s03 := s02.trans s3
  intro hn3
  show kAgg _ _
  rw [kAgg_a]
  refine ⟨rfl, kStN_of (upd_same _ _ _) rfl (by simp) (by simp [SlR.isCell hL]; exact ⟨rfl, rfl⟩) ?_⟩
  rw [upd_upd]
  have e1 : splice zC 0 [vl, .int .i64 (checkR h m txs xs).1, .int .i64 (checkR h m txs xs).2] = [vl, .int .i64 (checkR h m txs xs).1, .int .i64 (checkR h m txs xs).2] := splice_all rfl
  rw [e1]
  have s4 := (Sub.refl g3).new hn3 (some (.cells [vl, .int .i64 (checkR h m txs xs).1, .int .i64 (checkR h m txs xs).2] .exact))
  have hb4 : upd g3 n3 (some (.cells [vl, .int .i64 (checkR h m txs xs).1, .int .i64 (checkR h m txs xs).2] .exact)) n3 = some (.cells [vl, .int .i64 (checkR h m txs xs).1, .int .i64 (checkR h m txs xs).2] .exact) := upd_same _ _ _
  generalize upd g3 n3 (some (.cells [vl, .int .i64 (checkR h m txs xs).1, .int .i64 (checkR h m txs xs).2] .exact)) = g4 at s4 hb4
  have s04 := s03.trans s4
  have h84 := (s3.trans s4).live h82
  refine kLd_of hb4 rfl ?_
  rw [kBin_neq]
  refine kSplit_d (fun hc => kLd_of hb4 rfl ⟨rfl, by simp, ?_⟩) (fun hc => ?_)
  · refine ⟨rfl, kStN_of h84 rfl (by simp) (by simp; exact ⟨rfl, rfl⟩) (kLdN_of (upd_same _ _ _) (by simp [splice]) (aRet_of (Sub.refl _) ?_))⟩
    have e2 : ofR h m txs xs = ([], [], none) := by unfold ofR; rw [if_neg hc]
    have e3 : mapsR h m txs xs = [] := by unfold mapsR; rw [if_neg hc]
    rw [e2, e3] at hK
    refine hK (.slice none 0 0) (.slice none 0 0) _ _ (fun l => ?_) (OwnS.nil (g0 := none0)).sl maps0
    by_cases e : l = n + 1
    · subst e; exact .inl h0
    · rw [upd_ne _ _ e]; exact s04 l
  have hc : (checkR h m txs xs).2 = 0 := Classical.byContradiction hc
  obtain ⟨⟨hG, hW, hN⟩, hAG, hchk⟩ := checkR_ok hc
  have hm0 : 0 < m.length := by
    unfold wordsH at hW; rw [if_pos hG] at hW
    obtain ⟨_, _, _, h3, _⟩ := hG
    omega
  rw [kFill_nil]
  intro hn4
  refine ⟨rfl, kStN_of (upd_same _ _ _) rfl (by simp) (by simp; exact ⟨rfl, rfl⟩) ?_⟩
  rw [upd_upd]
  have e4 : splice zM 0 [.slice none 0 0, .slice none 0 0, .int .i64 0] = [.slice none 0 0, .slice none 0 0, .int .i64 0] := splice_all rfl
  rw [e4]
  have s5 := (Sub.refl g4).new hn4 (some (.cells [.slice none 0 0, .slice none 0 0, .int .i64 0] .exact))
  have hb5 : upd g4 (n3 + 1) (some (.cells [.slice none 0 0, .slice none 0 0, .int .i64 0] .exact)) (n3 + 1) = some (.cells [.slice none 0 0, .slice none 0 0, .int .i64 0] .exact) := upd_same _ _ _
  generalize upd g4 (n3 + 1) (some (.cells [.slice none 0 0, .slice none 0 0, .int .i64 0] .exact)) = g5 at s5 hb5
  have s4P : Abs.Sub g4 (upd g5 (n3 + 1) none) := fun l => by
    by_cases e : l = (n3 + 1)
    · subst e; exact .inl hn4
    · rw [upd_ne _ _ e]; exact s5 l
  have hP : Pst (upd g5 (n3 + 1) none) g5 (n3 + 1) (.slice none 0 0) [.slice none 0 0, .int .i64 0] [] := ⟨fun l => by
    by_cases e : l = (n3 + 1)
    · subst e; exact .inl (upd_same _ _ _)
    · exact .inr (upd_ne _ _ e), upd_same _ _ _, by simp [blks, blkOf], by simp [blks, blkOf], fun _ => by simp [blks, blkOf], OwnS.nil, hb5⟩
  rw [hc] at hb4 hK
  have eL : stepsR h m txs xs = steps h xs txs (begH h xs) m := by unfold stepsR; rw [if_pos hc]
  have eO : pstL (stepsR h m txs xs) 0 [] m = ofR h m txs xs := by rw [eL]; unfold ofR; rw [if_pos hc]
  have eM : mapsR h m txs xs = mapsP (ofR h m txs xs) := by unfold mapsR; rw [if_pos hc]; rfl
  rw [eM] at hK
  have hbl := begH_len h xs
  have hln : (stepsR h m txs xs).length = (begH h xs).length := by rw [eL, steps_len]
  refine may_loop (L := stepsR h m txs xs) (m := m) (l8 := n + 1) (l9 := n3) (l10 := (n3 + 1)) (vl := vl) (res := ofR h m txs xs) (s04.trans s4P) h0 (s4P.live h84) (s4P.live hb4) (hL.mono (fun c x h => StepC.mono c x (s4.trans s4P) h) (s4.trans s4P)) (by omega) (fun s hs => ?_) hm0 hml hK (stepsR h m txs xs).length _ g5 _
    ⟨0, .slice none 0 0, vm, [], m, upd g5 (n3 + 1) none, by omega, rfl, rfl, rfl, rfl, rfl, Sub.refl _, hP, hm.mono (s04.trans s4P), rfl, by simp, ?_⟩
  · rw [eL] at hs
    obtain ⟨q1, q2⟩ := steps_out _ _ s hs
    obtain ⟨q3, q4⟩ := steps_tl hAG _ _ s hs
    exact ⟨q1, q2, q3, by omega⟩
  · rw [List.drop_zero]; exact eO
end Go.Proofs.Ytldlimkjhppjbaa.Gen

namespace Go.Proofs.Ytldlimkjhppjbaa.Gen
open Go Go.Proofs.Ytldlimkjhppjbaa.Abs Go.RowKit
variable {g : G} {n : Nat}
set_option maxRecDepth 100000 in
set_option maxHeartbeats 4000000 in
theorem CrashTells_spec {h : Hp} {xs : List Ev} {txs : List (List TxT)} {vm vt a1 a2 : Value} {m left : List Int} (hm : Sl encW 1 g vm m) (hT : SlR TsC 1 g vt txs) (hv : Sl encE 5 g a1 xs) (hcap : Cap a1 5) (hle : Sl encW 1 g a2 left) (hl1 : txs.length < 4611686018427387904) (hl2 : ∀ ts ∈ txs, ts.length < 4611686018427387904) {K : Cont} (hK : ∀ g' n', K (.bool true) g' n') :
    AC bellowslaw29_CrashTells_id [.agg (wC h vm vt).toArray, a1, a2] g n K := by
  refine ACalls.fold X0_mono ?_
  rw [← bellowslaw29_CrashTells_eq]
  simp only [bellowslaw29_CrashTells, kAgg_a]
  intro hn
  have s1 := (Sub.refl g).new hn (some (.cells (wC h vm vt) .exact))
  have hb1 : upd g n (some (.cells (wC h vm vt) .exact)) n = some (.cells (wC h vm vt) .exact) := upd_same _ _ _
  generalize upd g n (some (.cells (wC h vm vt) .exact)) = g1 at s1 hb1
  have hm1 := hm.mono s1
  have hT1 := hT.mono (fun c x h => TsC.mono s1 c x h) s1
  have hv1 := hv.mono s1
  have hle1 := hle.mono s1
  have mT : ∀ {gb : G}, Sub g1 gb → SlR TsC 1 gb vt txs := fun s => hT1.mono (fun c x h => TsC.mono s c x h) s
  have jt : ∀ (t : Env) (n2 : Nat), t 34 = .bool true → bellowslaw29_CrashTells_j1 AC K t g1 n2 := by
    intro t n2 q34
    simp only [bellowslaw29_CrashTells_j1, q34]
    exact kSplit_t rfl (wakes29 fun g' n' => aRet_of (Sub.refl _) (hK _ _))
  refine kLd_of hb1 rfl (Fair27_spec hT1 hl1 hl2 fun n2 => ?_)
  rw [kUn_not]
  by_cases hF : Fair27 txs
  · refine kSplit_f (by simp [hF]) (kLd_of hb1 rfl (hm1.len ?_))
    rw [kBin_gtr]
    refine kSplit_d (fun _ => jt _ _ rfl) (fun hml => hv1.len ?_)
    rw [kBin_gtr]
    refine kSplit_d (fun _ => jt _ _ rfl) (fun hxl => hle1.len ?_)
    rw [kBin_gtr]
    by_cases hll : (500 : Int) < left.length
    · exact jt _ _ (by show Value.bool (decide _) = _; rw [decide_eq_true hll])
    have h10 := hF.1
    have hM2 := mapsR_len (h := h) (m := m) (txs := txs) (xs := xs)
    -- the last call
    have j8 : ∀ (t : Env) (vi : Value) (g5 : G) (n5 : Nat), Sub g1 g5 → Sl encE 5 g5 vi xs → t 13 = .bool (decide (left ∈ mapsR h m txs xs)) → t 7 = vi → t 2 = a2 → t 3 = ptr n 0 → bellowslaw29_CrashTells_j8 AC K t g5 n5 := by
      intro t vi g5 n5 s5 hvi q13 q7 q2 q3
      simp only [bellowslaw29_CrashTells_j8, bellowslaw29_CrashTells_j9, q13, q7, q2, q3, kPtr_p, kFill_nil]
      have hb5 := s5.live hb1
      refine ldW hb5 (kLd_of hb5 rfl (kLd_of hb5 rfl ?_))
      have jm : ∀ {v59 v62 v65 : Value} {g' : G} {n' : Nat} {T : Cont}, Sub g5 g' → Sl encW 1 g' v59 m → SlR TsC 1 g' v62 txs → Sl encW 1 g' v65 left → (∀ g2 n2, T (.bool (decide (left ∈ mapsR h m txs xs))) g2 n2) → AC crash_Check_id [.agg (encH h).toArray, v59, v62, vi, v65] g' n' T := fun s a b c k => Check_spec29 a (by omega) b hF (hvi.mono s) (by omega) c (by omega) (fun g2 n2 _ => k g2 n2)
      have fi : ∀ {g2 : G} {n2 : Nat} {A : Value → G → Nat → Prop} {B : Value → Prop}, (∀ g' n', A (.bool true) g' n') → kBin .bool .eql (.bool (decide (left ∈ mapsR h m txs xs))) (.bool (decide (left ∈ mapsR h m txs xs))) fun v147 => kSplit v147 (AC bellowslaw29_wakes_id [] g2 n2 fun v149 g3 n3 => A v149 g3 n3) (B v147) := fun {g2 n2 A B} k => by
        rw [kBin_beql]
        exact kSplit_t (by simp) (wakes29 fun g' n' => k g' n')
      refine reg3 (enc := encW) hb5 (hm1.mono s5) (by omega) (mT s5) hF (hle1.mono s5) (by omega) encW_cell (by decide) ?_ ?_ ?_ ?_
      · exact fun l56 l63 v59 v62 v65 g' n' s a b c => jm s a b c (fun g2 n2 => fi (fun g' n' => aRet_of (Sub.refl _) (hK _ _)))
      · exact fun l56 l63 v59 v62 v65 g' n' s a b c => jm s a b c (fun g2 n2 => fi (fun g' n' => aRet_of (Sub.refl _) (hK _ _)))
      · exact fun l56 l63 v59 v62 v65 g' n' s a b c => jm s a b c (fun g2 n2 => fi (fun g' n' => aRet_of (Sub.refl _) (hK _ _)))
      · exact fun l56 l63 v59 v62 v65 g' n' s a b c => jm s a b c (fun g2 n2 => fi (fun g' n' => aRet_of (Sub.refl _) (hK _ _)))
    -- map by map
    have j4 : ∀ (t : Env) (vi va vs vmp : Value) (l12 : Nat) (g5 : G) (n5 : Nat), Sub g1 g5 → Sl encE 5 g5 vi xs → SlR MapC 1 g5 va (mapsR h m txs xs) → SlR MapC 1 g5 vmp (mapsR h m txs xs) → g5 l12 = some (.cells [vs, vmp, .int .i64 (checkR h m txs xs).2] .exact) → t 105 = .bool false → t 8 = va → t 12 = ptr l12 0 → t 7 = vi → t 2 = a2 → t 3 = ptr n 0 → bellowslaw29_CrashTells_j4 AC K t g5 n5 := by
      intro t vi va vs vmp l12 g5 n5 s5 hvi hA hM hb12 q105 q8 q12 q7 q2 q3
      simp only [bellowslaw29_CrashTells_j4, q105]
      refine kSplit_f rfl ?_
      have hwl : ∀ x ∈ mapsR h m txs xs, x.length < 1000000 := by
        intro x hx
        unfold mapsR at hx
        split at hx
        · rename_i hc
          have hol : (ofR h m txs xs).2.1.length = m.length ∧ ∀ y, (ofR h m txs xs).2.2 = some y → y.length = m.length := by
            unfold ofR; rw [if_pos hc]
            have := pstL_len (steps h xs txs (begH h xs) m) 0 [] m (fun s hs => (steps_out _ _ s hs).1)
            exact ⟨this.1, this.2.1⟩
          split at hx
          · simp at hx; subst hx; omega
          · rename_i y hy
            simp at hx
            rcases hx with rfl | rfl
            · omega
            · have := hol.2 _ hy; omega
        · cases hx
      generalize hmaps : mapsR h m txs xs = maps at hA hM hM2 j8 hwl
      refine lfp_ind (m := maps.length) (Inv := fun mm t g6 n6 => ∃ j : Nat, mm + j = maps.length ∧ g6 = g5 ∧ t 8 = va ∧ t 12 = ptr l12 0 ∧ t 7 = vi ∧ t 2 = a2 ∧ t 3 = ptr n 0 ∧ t 14 = .int .i64 (j : Nat) ∧ t 13 = .bool (decide (left ∈ maps.take j))) ?_ ⟨0, by omega, rfl, q8, q12, q7, q2, q3, rfl, by show Value.bool false = _; simp⟩
      rintro I mm t g6 n6 ih ⟨j, hmm, rfl, t8, t12, t7, t2, t3, t14, t13⟩
      simp only [bellowslaw29_CrashTells_l5, t8, t12, t14, kPtr_p]
      refine hA.len ?_
      rw [kBin_lss]
      refine kSplit_d (fun hj => ?_) (fun hj => ?_)
      · have hj : j < maps.length := by omega
        have hget : maps[j]? = some maps[j] := List.getElem?_eq_getElem hj
        generalize maps[j] = x at hget
        have hxl := hwl x (List.mem_of_getElem? hget)
        refine hA.idx hget (fun l o c ha hc hx => ?_)
        obtain ⟨va1, rfl, hva1⟩ := hx
        rw [kPtr_p]
        refine ha.ld (i := 0) rfl (kLd_of hb12 rfl (hM.idx hget (fun l o c ha hc hx => ?_)))
        obtain ⟨vb1, rfl, hvb1⟩ := hx
        rw [kPtr_p]
        refine ha.ld (i := 0) rfl (Words_spec hva1 hvb1 (by omega) (fun n' => ?_))
        rw [kUn_not, decide_eq_true rfl]
        have next : ∀ (t' : Env) (n' : Nat) (b : Bool), (b = true ↔ left ∈ maps.take (j + 1)) → t' 13 = .bool b → t' 8 = va → t' 12 = ptr l12 0 → t' 7 = vi → t' 2 = a2 → t' 3 = ptr n 0 → t' 14 = .int .i64 (j : Nat) → bellowslaw29_CrashTells_j7 AC K I t' g6 n' := by
          intro t' n' b hb r13 r8 r12 r7 r2 r3 r14
          simp only [bellowslaw29_CrashTells_j7, r14]
          rw [kBin_add, wrap64_of (by omega) (by omega), show ((j : Nat) : Int) + 1 = ((j + 1 : Nat) : Int) by omega]
          refine ih (mm - 1) _ _ _ (by omega) ⟨j + 1, by omega, rfl, r8, r12, r7, r2, r3, rfl, ?_⟩
          show t' 13 = _
          rw [r13]
          have : b = decide (left ∈ maps.take (j + 1)) := by rw [Bool.eq_iff_iff]; simp [hb]
          rw [this]
        have j6 : ∀ (t' : Env) (n' : Nat), t' 122 = .bool false → t' 13 = .bool (decide (left ∈ maps.take j)) → t' 8 = va → t' 12 = ptr l12 0 → t' 7 = vi → t' 2 = a2 → t' 3 = ptr n 0 → t' 14 = .int .i64 (j : Nat) → bellowslaw29_CrashTells_j6 AC K I t' g6 n' := by
          intro t' n' r122 r13 r8 r12 r7 r2 r3 r14
          simp only [bellowslaw29_CrashTells_j6, r122, r13, r8, r2, r14]
          refine kSplit_f rfl (kSplit_d (fun hin => ?_) (fun hin => ?_))
          · refine next _ _ true ⟨fun _ => ?_, fun _ => rfl⟩ rfl r8 r12 r7 r2 r3 r14
            rw [take_add hget]; exact List.mem_append.2 (.inl hin)
          · refine hA.idx hget (fun l o c ha hc hx => ?_)
            obtain ⟨va1, rfl, hva1⟩ := hx
            rw [kPtr_p]
            refine ha.ld (i := 0) rfl (Words_spec (hle1.mono s5) hva1 (by omega) (fun n'' => ?_))
            refine next _ _ (decide (left = x)) ?_ rfl r8 r12 r7 r2 r3 r14
            rw [decide_eq_true_eq, take_add hget]
            constructor
            · rintro rfl; simp
            · intro hh
              rcases List.mem_append.1 hh with hh | hh
              · exact absurd hh hin
              · simpa using hh
        exact j6 _ _ rfl t13 t8 t12 t7 t2 t3 t14
      · rw [List.take_of_length_le (by omega)] at t13
        exact j8 _ vi g6 n6 s5 hvi t13 t7 t2 t3
    have j3 : ∀ (t : Env) (vi va vs : Value) (g4 : G) (n4 : Nat), Sub g1 g4 → Sl encE 5 g4 vi xs → SlR MapC 1 g4 va (mapsR h m txs xs) → Sl encZ 1 g4 vs (ofR h m txs xs).1 → t 8 = va → t 9 = .int .i64 (checkR h m txs xs).2 → t 10 = vs → t 11 = .int .i64 (checkR h m txs xs).2 → t 7 = vi → t 1 = a1 → t 2 = a2 → t 3 = ptr n 0 → bellowslaw29_CrashTells_j3 AC K t g4 n4 := by
      intro t vi va vs g4 n4 s4 hvi hA hS q8 q9 q10 q11 q7 q1 q2 q3
      have hb4 := s4.live hb1
      simp only [bellowslaw29_CrashTells_j3, q8, q9, q10, q11, q7, q1, q3, kPtr_p]
      refine ldW hb4 (kLd_of hb4 rfl (kLd_of hb4 rfl ?_))
      refine rMay_spec (hm1.mono s4) (by omega) (mT s4) hF (hv1.mono s4) hcap (by omega) (fun vs2 vmp g5 n5 s5 hS2 hM => ?_)
      intro hn5
      show kAgg _ _
      rw [kAgg_a]
      refine ⟨rfl, kStN_of (upd_same _ _ _) rfl (by simp) (by simp [Sl.isCell hS2, SlR.isCell hM]; rfl) ?_⟩
      rw [upd_upd]
      have e1 : splice zM 0 [vs2, vmp, .int .i64 (checkR h m txs xs).2] = [vs2, vmp, .int .i64 (checkR h m txs xs).2] := splice_all rfl
      rw [e1]
      have s6 := (Sub.refl g5).new hn5 (some (.cells [vs2, vmp, .int .i64 (checkR h m txs xs).2] .exact))
      have hb6 : upd g5 n5 (some (.cells [vs2, vmp, .int .i64 (checkR h m txs xs).2] .exact)) n5 = some (.cells [vs2, vmp, .int .i64 (checkR h m txs xs).2] .exact) := upd_same _ _ _
      generalize upd g5 n5 (some (.cells [vs2, vmp, .int .i64 (checkR h m txs xs).2] .exact)) = g6 at s6 hb6
      have s46 := s5.trans s6
      have hA6 := hA.mono (fun c x h => MapC.mono s46 c x h) s46
      have hM6 := hM.mono (fun c x h => MapC.mono s6 c x h) s6
      refine kLd_of hb6 rfl ?_
      rw [kBin_neq]
      refine kSplit_f (by simp) (kLd_of hb6 rfl ?_)
      rw [kBin_neq]
      refine kSplit_f (by simp) (hA6.len (kLd_of hb6 rfl (hM6.len ?_)))
      rw [kBin_neq]
      refine kSplit_f (by simp) (kLd_of hb6 rfl ?_)
      have hsl : (ofR h m txs xs).1.length < 1000000 := by
        unfold ofR; split
        · have h3 := (pstL_len (steps h xs txs (begH h xs) m) 0 [] m (fun s hs => (steps_out _ _ s hs).1)).2.2
          rw [steps_len] at h3
          have := begH_len h xs
          simp at h3; omega
        · simp
      refine Ints_spec (hS.mono s46) (hS2.mono s6) hsl (fun n' => ?_)
      rw [kUn_not, decide_eq_true rfl]
      refine kSplit_f rfl ?_
      refine EventsSame_spec (hvi.mono s46) (hv1.mono (s4.trans s46)) (by omega) (fun n'' => ?_)
      rw [kUn_not]
      exact j4 _ vi va vs2 vmp n5 g6 _ (s4.trans s46) (hvi.mono s46) hA6 hM6 hb6 rfl q8 rfl q7 q2 q3
    have j2 : ∀ (t : Env) (vi va : Value) (g3 : G) (n3 : Nat), Sub g1 g3 → Sl encE 5 g3 vi xs → SlR MapC 1 g3 va (mapsR h m txs xs) → t 8 = va → t 9 = .int .i64 (checkR h m txs xs).2 → t 7 = vi → t 1 = a1 → t 2 = a2 → t 3 = ptr n 0 → bellowslaw29_CrashTells_j2 AC K t g3 n3 := by
      intro t vi va g3 n3 s3 hvi hA q8 q9 q7 q1 q2 q3
      have hb3 := s3.live hb1
      simp only [bellowslaw29_CrashTells_j2, q7, q3, kPtr_p, kFill_nil]
      refine ldW hb3 (kLd_of hb3 rfl (kLd_of hb3 rfl (fun hn3 => ?_)))
      have sa := (Sub.refl g3).new hn3 (some (.cells (reps 0 [.int .u64 0]) .exact))
      generalize upd g3 n3 (some (.cells (reps 0 [.int .u64 0]) .exact)) = ga at sa
      have hba := sa.live hb3
      refine ⟨hba.trans hb3.symm, hba.trans hb3.symm, hba.trans hb3.symm, appE (hm1.mono (s3.trans sa)) encW_cell (by decide) (by omega) (fun v59 gb nb sb h59 => ?_)⟩
      have hbb := sb.live hba
      refine ⟨hbb.trans hba.symm, hbb.trans hba.symm, Copied27_spec (mT (s3.trans (sa.trans sb))) hF (fun v62 gc nc sc h62 => ?_)⟩
      have s3c := sa.trans (sb.trans sc)
      refine ⟨(sc.live hbb).trans hbb.symm, Sure_spec29 (h59.mono sc) (by omega) h62 hF (hvi.mono s3c) (by omega) (fun vs gd nd sd hS _ => ee ?_)⟩
      have s3d := s3c.trans sd
      exact j3 _ vi va vs gd nd (s3.trans s3d) (hvi.mono s3d) (hA.mono (fun c x h => MapC.mono s3d c x h) s3d) hS q8 q9 rfl rfl q7 q1 q2 q3
    have j1 : ∀ (t : Env) (n2 : Nat), t 34 = .bool false → t 1 = a1 → t 2 = a2 → t 3 = ptr n 0 → bellowslaw29_CrashTells_j1 AC K t g1 n2 := by
      intro t n2 q34 q1 q2 q3
      simp only [bellowslaw29_CrashTells_j1, q34, q1, q3, kPtr_p, kFill_nil]
      refine kSplit_f rfl (fun hn2 => ?_)
      have s0 := (Sub.refl g1).new hn2 (some (.cells (reps 0 [(.int .i64 0), (.int .i64 0), (.int .i64 0), (.int .i64 0), (.int .u64 0)]) .exact))
      generalize upd g1 n2 (some (.cells (reps 0 [(.int .i64 0), (.int .i64 0), (.int .i64 0), (.int .i64 0), (.int .u64 0)]) .exact)) = g2 at s0
      refine appE (hv1.mono s0) encE_cell (by decide) (by omega) (fun vi g3 n3 s3' hvi => ?_)
      have s3 := s0.trans s3'
      have hb3 := s3.live hb1
      refine ldW hb3 (kLd_of hb3 rfl (kLd_of hb3 rfl (fun hn3 => ?_)))
      have sa := (Sub.refl g3).new hn3 (some (.cells (reps 0 [.int .u64 0]) .exact))
      generalize upd g3 n3 (some (.cells (reps 0 [.int .u64 0]) .exact)) = ga at sa
      have hba := sa.live hb3
      refine ⟨hba.trans hb3.symm, hba.trans hb3.symm, hba.trans hb3.symm, appE (hm1.mono (s3.trans sa)) encW_cell (by decide) (by omega) (fun v59 gb nb sb h59 => ?_)⟩
      have hbb := sb.live hba
      refine ⟨hbb.trans hba.symm, hbb.trans hba.symm, Copied27_spec (mT (s3.trans (sa.trans sb))) hF (fun v62 gc nc sc h62 => ?_)⟩
      have s3c := sa.trans (sb.trans sc)
      refine ⟨(sc.live hbb).trans hbb.symm, May_spec29 (h59.mono sc) (by omega) h62 hF (hvi.mono s3c) (by omega) (fun va gd nd sd hA => ee ?_)⟩
      have s3d := s3c.trans sd
      exact j2 _ vi va gd nd (s3.trans s3d) (hvi.mono s3d) hA rfl rfl rfl q1 q2 q3
    refine j1 _ _ ?_ rfl rfl rfl
    show Value.bool (decide _) = _
    rw [decide_eq_false hll]
  · exact kSplit_t (by simp [hF]) (jt _ _ rfl)
end Go.Proofs.Ytldlimkjhppjbaa.Gen

namespace Go.Proofs.Ytldlimkjhppjbaa.Gen
open Go Go.Proofs.Ytldlimkjhppjbaa.Abs Go.RowKit
variable {g : G} {n : Nat}
theorem CrashTells_row {args : List Value} (hr : RepAs g [(true, [.i .i64, .i .i64, .i .i64, .i .i64, .i .i64, .i .i64, .i .i64, .i .i64, .i .i64, .s [.i .u64], .s [.s [.s [.i .i64, .i .i64, .i .u64], .b]]]), (false, [.s [.i .i64, .i .i64, .i .i64, .i .i64, .i .u64]]), (false, [.s [.i .u64]])] args) {K : Cont} (hK : ∀ g' n', K (.bool true) g' n') : AC 7 args g n K := by
  cases hr with
  | cons h1 hr =>
    cases hr with
    | cons h2 hr =>
      cases hr with
      | cons h3 hr =>
        cases hr
        obtain ⟨vlf, rlf, elf, h3, hnl⟩ := rep_s h3
        cases elf
        obtain ⟨left, hleft, _⟩ := rep_sl decW h3
        obtain ⟨cs, e, h1⟩ := h1
        obtain ⟨a1, r1, e1, _, h⟩ := rep_i h1
        obtain ⟨a2, r2, e2, _, h⟩ := rep_i h
        obtain ⟨a3, r3, e3, _, h⟩ := rep_i h
        obtain ⟨a4, r4, e4, _, h⟩ := rep_i h
        obtain ⟨a5, r5, e5, _, h⟩ := rep_i h
        obtain ⟨a6, r6, e6, _, h⟩ := rep_i h
        obtain ⟨a7, r7, e7, _, h⟩ := rep_i h
        obtain ⟨a8, r8, e8, _, h⟩ := rep_i h
        obtain ⟨a9, r9, e9, _, h⟩ := rep_i h
        obtain ⟨vm, r10, e10, hm, h⟩ := rep_s h
        obtain ⟨vt, r11, e11, ht, h⟩ := rep_s h
        have e0 := rep_nil h
        subst e0 e11 e10 e9 e8 e7 e6 e5 e4 e3 e2 e1
        subst e
        obtain ⟨v, r, e, h2, hn⟩ := rep_s h2
        cases e
        obtain ⟨xs, h2, hc⟩ := rep_sl decEv h2
        obtain ⟨m, hm, _⟩ := rep_sl decW hm
        obtain ⟨txs, ht, htc⟩ := rep_slR (R := TsB) decTs ht
        have hb := SlR.bound ht htc
        obtain ⟨els, q1, q2, q3⟩ := ht
        refine CrashTells_spec (h := ⟨a1, a2, a3, a4, a5, a6, a7, a8, a9⟩) hm ⟨els, q1, q2, fun i c x hc hx => ⟨(q3 i c x hc hx).1, (q3 i c x hc hx).2.1⟩⟩ h2 (cap_of h2 hc) hleft hb (fun ts hts => ?_) hK
        obtain ⟨i, hi, rfl⟩ := List.mem_iff_getElem.1 hts
        exact (q3 i _ _ (List.getElem?_eq_getElem (by omega)) (List.getElem?_eq_getElem hi)).2.2
end Go.Proofs.Ytldlimkjhppjbaa.Gen
