import Derived.Test.YtjpckcikmfihlaaGreatSpecMesiMemoryC
/- What the functions come to. -/
set_option linter.all false
set_option linter.deprecated false
namespace Go.Proofs.YtjpckcikmfihlaaGreat.Gen
open Go Go.Proofs.YtjpckcikmfihlaaGreat.Abs Go.RowKit
variable {g : G} {n : Nat}
theorem At_ld0 {l o : Nat} {cs : List Value} {v : Value} {K : Value → Prop} (h : At g l o cs) (hv : cs[0]? = some v) (kk : K v) : kLd g l o K := by
  have := At.ld h (i := 0) hv kk
  simpa using this
theorem MoH.base {g0 gb : G} {l : Nat} {v : Value} {m : Mov} (h : MoH gb g l v m) (hs : Sub g0 gb) : MoH g0 g l v m := ⟨hs.trans h.sub, hs.none h.new, h.at_, h.own.base hs, h.ne⟩
/-- all that is new since a moment, and what was there at first, is kept beside a move -/
theorem MoH.rebase {g0 g' : G} {l : Nat} {v : Value} {m : Mov} (h : MoH g0 g l v m) (hs : Sub g g') : ∃ gb, Sub g0 gb ∧ MoH gb g' l v m ∧ ∀ i b, g i = none → g' i = some b → gb i = some b := by
  classical
  let gb : G := fun i => if i = l ∨ (blkOf v = some i ∧ g0 i = none ∧ g i ≠ none) then none else g' i
  have hm := h.mono hs
  refine ⟨gb, fun i => ?_, ⟨fun i => ?_, ?_, hm.at_, ?_, h.ne⟩, fun i b h1 h2 => ?_⟩
  · by_cases hi : i = l ∨ (blkOf v = some i ∧ g0 i = none ∧ g i ≠ none)
    · left
      rcases hi with rfl | ⟨_, h2, _⟩
      · exact h.new
      · exact h2
    · show g0 i = none ∨ g0 i = gb i
      have e : gb i = g' i := if_neg hi
      rw [e]; exact hm.sub i
  · by_cases hi : i = l ∨ (blkOf v = some i ∧ g0 i = none ∧ g i ≠ none)
    · exact .inl (if_pos hi)
    · exact .inr (if_neg hi)
  · exact if_pos (.inl rfl)
  · rcases h.own with a | ⟨lc, c, bk, rfl, hg, h0, hl, hc⟩
    · exact .inl a
    · refine .inr ⟨lc, c, bk, rfl, hs.live hg, ?_, hl, hc⟩
      exact if_pos (.inr ⟨rfl, h0, by rw [hg]; exact fun h => nomatch h⟩)
  · have e : gb i = g' i := by
      refine if_neg ?_
      rintro (rfl | ⟨_, _, h3⟩)
      · rw [h.at_] at h1; cases h1
      · exact h3 h1
    rw [e]; exact h2
theorem OwnS_into {α : Type} {enc : α → List Value} {z : Nat} {g' gb : G} {v : Value} {xs : List α} (h : OwnS enc z g g' v xs) (hk : ∀ i b, g i = none → g' i = some b → gb i = some b) : OwnS enc z g gb v xs := by
  rcases h with a | ⟨lc, c, bk, rfl, hg, h0, hl, hc⟩
  · exact .inl a
  · exact .inr ⟨lc, c, bk, rfl, hk _ _ h0 hg, h0, hl, hc⟩
theorem coresM_len (m : Mask) : (coresM m).length ≤ 8 := by
  unfold coresM
  rw [List.length_map]
  have := List.length_filter_le (fun i => hasM m (i : Nat)) (List.range 8)
  rw [List.length_range] at this; exact this
theorem Mov.tells_out (kind : Int) : ∀ (l : List Int) (m : Mov), (m.tells kind l).out.length = m.out.length + l.length
  | [], m => rfl
  | to :: r, m => by rw [Mov.tells, Mov.tells_out kind r]; simp [Mov.tell]; omega
theorem Mov.tells_snoc (kind : Int) : ∀ (l : List Int) (m : Mov) (x : Int), m.tells kind (l ++ [x]) = (m.tells kind l).tell x kind
  | [], m, x => rfl
  | to :: r, m, x => by rw [List.cons_append, Mov.tells, Mov.tells_snoc kind r]; rfl
section
variable {g0 : G} {l : Nat} {v : Value} {m : Mov} {K : Cont}
theorem over_spec (h : MoH g0 g l v m) (hK : ∀ g' n', MoH g0 g' l v m.over → K (.tuple #[]) g' n') : AC dir_move_over_id [ptr l 0] g n K := by
  refine ACalls.fold X0_mono ?_
  rw [← dir_move_over_eq]
  simp only [dir_move_over, kNil_p, kPtr_p]
  refine h.st12 0 (fun g1 h1 => h1.st13 0 (fun g2 h2 => h2.st14 0#8 (fun g3 h3 => ?_)))
  exact aRet_of (Sub.refl _) (hK _ _ h3)
theorem own_spec (h : MoH g0 g l v m) (by_ kind : Int) (hb : m.out.length < 1000) (hK : ∀ v' g' n', MoH g0 g' l v' (m.own by_ kind) → K (.tuple #[]) g' n') : AC dir_move_own_id [ptr l 0, .int .i64 by_, .int .i64 kind] g n K := by
  refine ACalls.fold X0_mono ?_
  rw [← dir_move_own_eq]
  simp only [dir_move_own, kNil_p, kPtr_p]
  refine h.st10 by_ (fun g1 h1 => h1.st11 0#8 (fun g2 h2 => ?_))
  exact tell_spec h2 by_ kind hb (fun v' g' n' h' => aRet_of (Sub.refl _) (hK _ _ _ h'))
theorem read_spec (h : MoH g0 g l v m) (by_ : Int) (hb : m.out.length < 1000) (hK : ∀ v' g' n', MoH g0 g' l v' (m.read by_) → K (.tuple #[]) g' n') : AC dir_move_read_id [ptr l 0, .int .i64 by_] g n K := by
  refine ACalls.fold X0_mono ?_
  rw [← dir_move_read_eq]
  simp only [dir_move_read, kNil_p, kPtr_p]
  refine kLd_of h.at_ (mo_11 _ _) (Bit_spec _ (fun n1 => ⟨rfl, kOr_m ?_⟩))
  refine h.st11 (m.e.share ||| bitM by_) (fun g2 h2 => ?_)
  exact tell_spec h2 by_ 8 hb (fun v' g' n' h' => aRet_of (Sub.refl _) (hK _ _ _ h'))
theorem holders_spec (h : MoH g0 g l v m) (hK : ∀ n', K (encMask m.e.holders) g n') : AC dir_move_holders_id [ptr l 0] g n K := by
  refine ACalls.fold X0_mono ?_
  rw [← dir_move_holders_eq]
  simp only [dir_move_holders, kNil_p, kPtr_p]
  refine kLd_of h.at_ (mo_11 _ _) (kLd_of h.at_ (mo_10 _ _) (Bit_spec _ (fun n1 => ⟨rfl, kOr_m ?_⟩)))
  exact aRet_of (Sub.refl _) (hK _)
theorem take_spec (h : MoH g0 g l v m) (x : Ms) (hK : ∀ g' n', MoH g0 g' l v { m with e := m.e.take x } → K (.tuple #[]) g' n') : AC dir_move_take_id [ptr l 0, .agg (encM x).toArray] g n K := by
  refine ACalls.fold X0_mono ?_
  rw [← dir_move_take_eq]
  simp only [dir_move_take, kAgg_a, kNil_p, kPtr_p]
  intro hn
  have s1 : Sub g (upd g n (some (.cells (encM x) .exact))) := (Sub.refl g).new hn _
  have hx : upd g n (some (.cells (encM x) .exact)) n = some (.cells (encM x) .exact) := upd_same _ _ _
  have h1 := h.mono s1
  refine ldM2 hx (kSp_b (fun hd => ?_) (fun hd => ?_))
  · have e : m.e.take x = { m.e with data := x.data, dirty := true } := by unfold Ent.take; rw [if_pos hd]
    rw [e] at hK
    refine ldMd hx ⟨encL_len _, ?_⟩
    refine h1.std x.data (fun g2 h2 => h2.st1 true (fun g3 h3 => aRet_of (Sub.refl _) (hK _ _ h3)))
  · have e : m.e.take x = m.e := by unfold Ent.take; rw [if_neg (by rw [hd]; decide)]
    rw [e] at hK
    exact aRet_of (Sub.refl _) (hK _ _ h1)
theorem wait_spec (h : MoH g0 g l v m) (busy by_ : Int) (cores : Mask) (kind : Int) (hb : m.out.length < 900) (hK : ∀ v' g' n', MoH g0 g' l v' (m.wait busy by_ cores kind) → K (.tuple #[]) g' n') :
    AC dir_move_wait_id [ptr l 0, .int .i64 busy, .int .i64 by_, encMask cores, .int .i64 kind] g n K := by
  refine ACalls.fold X0_mono ?_
  rw [← dir_move_wait_eq]
  simp only [dir_move_wait, kNil_p, kPtr_p]
  refine h.st12 busy (fun g1 h1 => h1.st13 by_ (fun g2 h2 => h2.st14 cores (fun g3 h3 => ?_)))
  refine Cores_spec cores (fun vc g4 n4 s4 o4 => ?_)
  obtain ⟨gb, hsb, hm, hk⟩ := h3.rebase s4
  have hsl : Sl encI 1 gb vc (coresM cores) := (OwnS_into o4 hk).sl
  refine o4.sl.len ?_
  have hlen := coresM_len cores
  generalize hcs : coresM cores = cs at hsl hlen
  replace hK : ∀ v' g' n', MoH g0 g' l v' (Mov.tells { m with e := { m.e with busy := busy, who := by_, wait := cores } } kind cs) → K (.tuple #[]) g' n' := by
    intro v' g' n' h'
    refine hK v' g' n' ?_
    unfold Mov.wait
    rw [hcs]; exact h'
  have hM : ({ m with e := { m.e with busy := busy, who := by_, wait := cores } } : Mov).out.length < 900 := hb
  have hm2 : MoH gb g4 l v ({ m with e := { m.e with busy := busy, who := by_, wait := cores } } : Mov) := hm
  clear h3 h2 h1 hm
  generalize ({ m with e := { m.e with busy := busy, who := by_, wait := cores } } : Mov) = M at hM hm2 hK
  refine lfp_ind (m := cs.length) (Inv := fun q t g9 n9 => ∃ (j : Nat) (v' : Value), q + j = cs.length ∧ MoH gb g9 l v' (M.tells kind (cs.take j)) ∧ t 0 = ptr l 0 ∧ t 4 = .int .i64 kind ∧ t 28 = vc ∧ t 29 = .int .i64 cs.length ∧ t 30 = .int .i64 (j : Nat)) ?_
    ⟨0, v, by omega, hm2, rfl, rfl, rfl, rfl, rfl⟩
  rintro I q t g9 n9 ih ⟨j, w, hj, h9, t0, t4, t28, t29, t30⟩
  simp only [dir_move_wait_l1, t0, t4, t28, t29, t30, kBin_lss]
  by_cases hj' : j < cs.length
  · refine kSplit_t (decide_eq_true (by omega)) ?_
    obtain ⟨c, hc⟩ : ∃ c, cs[j]? = some c := ⟨cs[j], List.getElem?_eq_getElem hj'⟩
    refine (hsl.mono h9.sub).idx encI_len hc (fun li oi ha => ?_)
    simp only [kPtr_p]
    refine At_ld0 ha rfl ?_
    refine tell_spec h9 c kind (by rw [Mov.tells_out, List.length_take]; omega) (fun v' g' n' h' => ?_)
    rw [kBin_add, wrap64_of (by omega) (by omega), show ((j : Nat) : Int) + 1 = ((j + 1 : Nat) : Int) by omega]
    refine ih (q - 1) _ _ _ (by omega) ⟨j + 1, v', by omega, ?_, t0, t4, t28, t29, rfl⟩
    rw [List.take_add_one, hc, Option.toList_some, Mov.tells_snoc]; exact h'
  · refine kSplit_f (decide_eq_false (by omega)) ?_
    obtain rfl : j = cs.length := by omega
    rw [List.take_length] at h9
    exact aRet_of (Sub.refl _) (hK _ _ _ (h9.base hsb))
end
end Go.Proofs.YtjpckcikmfihlaaGreat.Gen

namespace Go.Proofs.YtjpckcikmfihlaaGreat.Gen
open Go Go.Proofs.YtjpckcikmfihlaaGreat.Abs Go.RowKit
variable {g : G} {n : Nat}
section
variable {g0 : G} {l : Nat} {v : Value} {m : Mov} {K : Cont}
theorem getS_spec (h : MoH g0 g l v m) (by_ : Int) (x : Ms) (hb : m.out.length < 900) (hK : ∀ v' g' n', MoH g0 g' l v' (m.getS by_) → K (.tuple #[]) g' n') : AC dir_move_getS_id [ptr l 0, .int .i64 by_, .agg (encM x).toArray] g n K := by
  refine ACalls.fold X0_mono ?_
  rw [← dir_move_getS_eq]
  simp only [dir_move_getS, kAgg_a, kNil_p, kPtr_p]
  intro hn
  have h1 := h.mono ((Sub.refl g).new hn (some (.cells (encM x) .exact)))
  unfold Mov.getS at hK
  refine kLd_of h1.at_ (mo_10 _ _) (wGeq (kSp_d (fun h0 => wNeq (kSp_d (fun h2 => ?_) (fun h2 => kLd_of h1.at_ (mo_11 _ _) (wZr (kSp_b (fun h3 => ?_) (fun h3 => ?_)))))) (fun h0 => kLd_of h1.at_ (mo_11 _ _) (wZr (kSp_b (fun h3 => ?_) (fun h3 => ?_))))))
  · rw [if_pos ⟨h0, h2⟩] at hK
    exact Bit_spec _ (fun n1 => wait_spec h1 1 by_ _ 13 hb (fun v' g' n' h' => aRet_of (Sub.refl _) (hK _ _ _ h')))
  · rw [if_neg (fun a => h2 a.2), if_pos (by simpa using h3)] at hK
    exact own_spec h1 by_ 9 (by omega) (fun v' g' n' h' => aRet_of (Sub.refl _) (hK _ _ _ h'))
  · rw [if_neg (fun a => h2 a.2), if_neg (by simpa using h3)] at hK
    exact read_spec h1 by_ (by omega) (fun v' g' n' h' => aRet_of (Sub.refl _) (hK _ _ _ h'))
  · rw [if_neg (fun a => h0 a.1), if_pos (by simpa using h3)] at hK
    exact own_spec h1 by_ 9 (by omega) (fun v' g' n' h' => aRet_of (Sub.refl _) (hK _ _ _ h'))
  · rw [if_neg (fun a => h0 a.1), if_neg (by simpa using h3)] at hK
    exact read_spec h1 by_ (by omega) (fun v' g' n' h' => aRet_of (Sub.refl _) (hK _ _ _ h'))
theorem getM_spec (h : MoH g0 g l v m) (by_ : Int) (x : Ms) (hb : m.out.length < 900) (hK : ∀ v' g' n', MoH g0 g' l v' (m.getM by_) → K (.tuple #[]) g' n') : AC dir_move_getM_id [ptr l 0, .int .i64 by_, .agg (encM x).toArray] g n K := by
  refine ACalls.fold X0_mono ?_
  rw [← dir_move_getM_eq]
  simp only [dir_move_getM, kAgg_a]
  intro hn
  have h1 := h.mono ((Sub.refl g).new hn (some (.cells (encM x) .exact)))
  unfold Mov.getM at hK
  refine holders_spec h1 (fun n1 => Bit_spec _ (fun n2 => kAndNot_m (wZr (kSp_b (fun h3 => ?_) (fun h3 => ?_)))))
  · rw [if_pos (by simpa using h3)] at hK
    exact own_spec h1 by_ 10 (by omega) (fun v' g' n' h' => aRet_of (Sub.refl _) (hK _ _ _ h'))
  · rw [if_neg (by simpa using h3)] at hK
    exact wait_spec h1 2 by_ _ 12 hb (fun v' g' n' h' => aRet_of (Sub.refl _) (hK _ _ _ h'))
theorem put_spec (h : MoH g0 g l v m) (by_ : Int) (x : Ms) (hb : m.out.length < 900) (hK : ∀ v' g' n', MoH g0 g' l v' (m.put by_ x) → K (.tuple #[]) g' n') : AC dir_move_put_id [ptr l 0, .int .i64 by_, .agg (encM x).toArray] g n K := by
  refine ACalls.fold X0_mono ?_
  rw [← dir_move_put_eq]
  simp only [dir_move_put, kAgg_a, kNil_p, kPtr_p]
  intro hn
  have s1 := (Sub.refl g).new hn (some (.cells (encM x) .exact))
  obtain ⟨gb, hsb, h1, hk⟩ := h.rebase s1
  have hx : gb n = some (.cells (encM x) .exact) := hk _ _ hn (upd_same _ _ _)
  have hK' : ∀ v' g' n', MoH gb g' l v' (m.put by_ x) → K (.tuple #[]) g' n' := fun v' g' n' h' => hK v' g' n' (h'.base hsb)
  clear hK
  unfold Mov.put at hK'
  have j1 : ∀ (t : Env) (g3 : G) (n3 : Nat) (m3 : Mov), MoH gb g3 l v m3 → m3.out.length < 900 → (∀ v' g' n', MoH gb g' l v' (m3.tell by_ 11) → K (.tuple #[]) g' n') → t 0 = ptr l 0 → t 1 = .int .i64 by_ → dir_move_put_j1 AC K t g3 n3 := by
    intro t g3 n3 m3 h3 hb3 hK3 t0 t1
    simp only [dir_move_put_j1, t0, t1]
    exact tell_spec h3 by_ 11 (by omega) (fun v' g' n' h' => aRet_of (Sub.refl _) (hK3 _ _ _ h'))
  refine kLd_of h1.at_ (mo_10 _ _) (wEql (kSp_d (fun h0 => ?_) (fun h0 => ?_)))
  · rw [if_pos h0] at hK'
    refine h1.st10 (-1) (fun g2 h2 => ?_)
    refine ldM (h2.sub.live hx) (take_spec h2 x (fun g3 n3 h3 => ?_))
    exact j1 _ _ _ _ h3 hb hK' rfl rfl
  · rw [if_neg h0] at hK'
    refine kLd_of h1.at_ (mo_11 _ _) (Bit_spec _ (fun n2 => ⟨rfl, kAndNot_m ?_⟩))
    refine h1.st11 _ (fun g2 h2 => ?_)
    exact j1 _ _ _ _ h2 hb hK' rfl rfl
theorem clean_spec (h : MoH g0 g l v m) (by_ : Int) (x : Ms) (hb : m.out.length < 900) (hK : ∀ v' g' n', MoH g0 g' l v' (m.clean by_) → K (.tuple #[]) g' n') : AC dir_move_clean_id [ptr l 0, .int .i64 by_, .agg (encM x).toArray] g n K := by
  refine ACalls.fold X0_mono ?_
  rw [← dir_move_clean_eq]
  simp only [dir_move_clean, kAgg_a, kNil_p, kPtr_p]
  intro hn
  have h1 := h.mono ((Sub.refl g).new hn (some (.cells (encM x) .exact)))
  refine kLd_of h1.at_ (mo_10 _ _) (Bit_spec _ (fun n2 => ?_))
  exact wait_spec h1 4 by_ _ 13 hb (fun v' g' n' h' => aRet_of (Sub.refl _) (hK _ _ _ h'))
theorem wipe_spec (h : MoH g0 g l v m) (by_ : Int) (x : Ms) (hb : m.out.length < 900) (hK : ∀ v' g' n', MoH g0 g' l v' (m.wipe by_) → K (.tuple #[]) g' n') : AC dir_move_wipe_id [ptr l 0, .int .i64 by_, .agg (encM x).toArray] g n K := by
  refine ACalls.fold X0_mono ?_
  rw [← dir_move_wipe_eq]
  simp only [dir_move_wipe, kAgg_a]
  intro hn
  have h1 := h.mono ((Sub.refl g).new hn (some (.cells (encM x) .exact)))
  refine holders_spec h1 (fun n1 => ?_)
  exact wait_spec h1 5 by_ _ 12 hb (fun v' g' n' h' => aRet_of (Sub.refl _) (hK _ _ _ h'))
end
def asksB (x : Int) : Bool := decide (1 ≤ x ∧ x ≤ 5)
theorem Asks_spec {x : Int} {K : Cont} (hK : ∀ n', K (.bool (asksB x)) g n') : AC msg_Asks_id [.int .i64 x] g n K := by
  refine ACalls.fold X0_mono ?_
  rw [← msg_Asks_eq]
  simp only [msg_Asks]
  refine wGeq (kSp_d (fun h => wLeq (lfE hK ?_)) (fun h => lfE hK ?_))
  · unfold asksB; simp [h]
  · unfold asksB; simp [h]
def answersB (x : Int) : Bool := decide (x = 6 ∨ x = 7)
theorem Answers_spec {x : Int} {K : Cont} (hK : ∀ n', K (.bool (answersB x)) g n') : AC msg_Answers_id [.int .i64 x] g n K := by
  refine ACalls.fold X0_mono ?_
  rw [← msg_Answers_eq]
  simp only [msg_Answers]
  refine wEql (kSp_d (fun h => lfE hK ?_) (fun h => wEql (lfE hK ?_)))
  · unfold answersB; simp [h]
  · unfold answersB; simp [h]
end Go.Proofs.YtjpckcikmfihlaaGreat.Gen

namespace Go.Proofs.YtjpckcikmfihlaaGreat.Gen
open Go Go.Proofs.YtjpckcikmfihlaaGreat.Abs Go.RowKit
variable {g g0 : G} {n : Nat}
def asksL : List Value := [.nilFunc, .func (.func dir_move_getS_id) #[] #[], .func (.func dir_move_getM_id) #[] #[], .func (.func dir_move_put_id) #[] #[], .func (.func dir_move_clean_id) #[] #[], .func (.func dir_move_wipe_id) #[] #[]]
theorem asks_spec {K : Cont} (hK : ∀ g' n', Sub g g' → K (.agg asksL.toArray) g' n') : AC dir_asks_id [] g n K := by
  refine ACalls.fold X0_mono ?_
  rw [← dir_asks_eq]
  simp only [dir_asks, kAgg_a]
  intro hn
  have s1 := (Sub.refl g).new hn (some (.cells [.nilFunc, .nilFunc, .nilFunc, .nilFunc, .nilFunc, .nilFunc] .exact))
  have hx : upd g n (some (.cells [.nilFunc, .nilFunc, .nilFunc, .nilFunc, .nilFunc, .nilFunc] .exact)) n = some (.cells [.nilFunc, .nilFunc, .nilFunc, .nilFunc, .nilFunc, .nilFunc] .exact) := upd_same _ _ _
  refine ⟨rfl, by decide, rfl, by decide, rfl, by decide, rfl, by decide, rfl, by decide, rfl, ?_⟩
  refine kStN_of hx rfl (by decide) (by intro v hv; simp at hv; rcases hv with rfl | rfl | rfl | rfl | rfl | rfl <;> rfl) ?_
  refine kLdN_of (upd_same _ _ _) (by decide) ?_
  exact aRet_of (Sub.refl _) (hK _ _ (s1.upd_fresh _ hn))
def Mov.asked (m : Mov) (by_ : Int) (x : Ms) : Mov := if x.kind = 1 then m.getS by_ else if x.kind = 2 then m.getM by_ else if x.kind = 3 then m.put by_ x else if x.kind = 4 then m.clean by_ else m.wipe by_
theorem asked_spec {g0 : G} {l : Nat} {v : Value} {m : Mov} {K : Cont} (h : MoH g0 g l v m) (by_ : Int) (x : Ms) (hx : asksB x.kind = true) (hb : m.out.length < 900) (hK : ∀ v' g' n', MoH g0 g' l v' (m.asked by_ x) → K (.tuple #[]) g' n') :
    kIdx (.agg asksL.toArray) (.int .i64 x.kind) 6 1 none fun v49 => kCall AC v49 [ptr l 0, .int .i64 by_, .agg (encM x).toArray] g n K := by
  have hx' : x.kind = 1 ∨ x.kind = 2 ∨ x.kind = 3 ∨ x.kind = 4 ∨ x.kind = 5 := by unfold asksB at hx; simp only [decide_eq_true_eq] at hx; omega
  unfold Mov.asked at hK
  have go : ∀ (k : Int) (j : Nat) (f : FuncId), k = j → j < 6 → asksL[j]? = some (.func (.func f) #[] #[]) → AC f [ptr l 0, .int .i64 by_, .agg (encM x).toArray] g n K → kIdx (.agg asksL.toArray) (.int .i64 k) 6 1 none fun v49 => kCall AC v49 [ptr l 0, .int .i64 by_, .agg (encM x).toArray] g n K := by
    intro k j f hk hj hf hc
    subst hk
    refine ⟨by omega, by omega, ?_⟩
    show kPart asksL (((j : Nat) : Int).toNat * 1) none _
    rw [Int.toNat_natCast, Nat.mul_one]
    exact kGet_of hf hc
  rcases hx' with e | e | e | e | e
  · simp only [e, if_true] at hK
    exact go _ 1 _ e (by decide) rfl (getS_spec h by_ x hb hK)
  · simp only [e, if_true, if_neg (show ¬ (2 : Int) = 1 by decide)] at hK
    exact go _ 2 _ e (by decide) rfl (getM_spec h by_ x hb hK)
  · simp only [e, if_true, if_neg (show ¬ (3 : Int) = 1 by decide), if_neg (show ¬ (3 : Int) = 2 by decide)] at hK
    exact go _ 3 _ e (by decide) rfl (put_spec h by_ x hb hK)
  · simp only [e, if_true, if_neg (show ¬ (4 : Int) = 1 by decide), if_neg (show ¬ (4 : Int) = 2 by decide), if_neg (show ¬ (4 : Int) = 3 by decide)] at hK
    exact go _ 4 _ e (by decide) rfl (clean_spec h by_ x hb hK)
  · simp only [e, if_neg (show ¬ (5 : Int) = 1 by decide), if_neg (show ¬ (5 : Int) = 2 by decide), if_neg (show ¬ (5 : Int) = 3 by decide), if_neg (show ¬ (5 : Int) = 4 by decide)] at hK
    exact go _ 5 _ e (by decide) rfl (wipe_spec h by_ x hb hK)
def zeroEnt : Ent := ⟨false, false, zeroL, 0, 0#8, 0, 0, 0#8⟩
theorem zEnt : [Value.bool false, .bool false, .int .u64 0, .int .u64 0, .int .u64 0, .int .u64 0, .int .u64 0, .int .u64 0, .int .u64 0, .int .u64 0, .int .i64 0, .int .u8 0, .int .i64 0, .int .i64 0, .int .u8 0] = encEnt zeroEnt := rfl
theorem mo_e (m : Mov) (v : Value) : ((encMo m v).drop 0).take 15 = encEnt m.e := by
  unfold encMo
  exact List.take_left' (encEnt_len _)
theorem ldEn {l : Nat} {e : Ent} {bk : BK} {K : List Value → Prop} (h : g l = some (.cells (encEnt e) bk)) (k : K (encEnt e)) : kLdN g l 0 15 K := by
  refine kLdN_of h (by rw [encEnt_len]; decide) ?_
  rw [List.drop_zero, List.take_of_length_le (by rw [encEnt_len]; exact Nat.le_refl _)]; exact k
theorem stEn {l : Nat} {e z : Ent} {K : G → Prop} (h : g l = some (.cells (encEnt z) .exact)) (k : K (upd g l (some (.cells (encEnt e) .exact)))) : (encEnt e).length = 15 ∧ kStN g l 0 (encEnt e) K := by
  refine ⟨encEnt_len _, kStN_of h rfl (by rw [encEnt_len, encEnt_len]; decide) (encEnt_cell _) ?_⟩
  rw [splice_all (by rw [encEnt_len, encEnt_len])]; exact k
theorem OwnS_updO {α : Type} {enc : α → List Value} {z : Nat} {v : Value} {xs : List α} {l : Nat} {b : Blk} (h : OwnS enc z g0 g v xs) (hl : g0 l = some b) (c : Option Blk) : OwnS enc z g0 (upd g l c) v xs := by
  rcases h with a | ⟨lc, cc, bk, rfl, hg, h0, hl', hc⟩
  · exact .inl a
  · exact .inr ⟨lc, cc, bk, rfl, by rw [upd_ne _ _ (fun e => by rw [e, hl] at h0; cases h0)]; exact hg, h0, hl', hc⟩
theorem kFill_mo {e : Ent} {line : Int} {K : List Value → Prop} (k : K (encMo ⟨e, line, []⟩ (.slice none 0 0))) : kFill (encEnt zeroEnt ++ [.int .i64 0, .slice none 0 0]) [(0, some 15, .agg (encEnt e).toArray), (15, none, .int .i64 line)] K := by
  refine ⟨encEnt_len e, Nat.le_of_ble_eq_true rfl, rfl, ?_, ?_⟩
  · unfold splice
    simp [encEnt_len]
  have e1 : (splice (encEnt zeroEnt ++ [.int .i64 0, .slice none 0 0]) 0 (encEnt e)).set 15 (.int .i64 line) = encMo ⟨e, line, []⟩ (.slice none 0 0) := by
    clear k
    obtain ⟨h, d0, data, o, s, b, w, wt⟩ := e; revert data
    exact ln_cases fun _ _ _ _ _ _ _ _ _ => rfl
  rw [e1]; exact k
theorem kFill_mo0 {e : Ent} {K : List Value → Prop} (k : K (encMo ⟨e, 0, []⟩ (.slice none 0 0))) : kFill (encEnt zeroEnt ++ [.int .i64 0, .slice none 0 0]) [(0, some 15, .agg (encEnt e).toArray)] K := by
  refine ⟨encEnt_len e, by decide, ?_⟩
  have e1 : splice (encEnt zeroEnt ++ [.int .i64 0, .slice none 0 0]) 0 (encEnt e) = encMo ⟨e, 0, []⟩ (.slice none 0 0) := by
    clear k
    obtain ⟨h, d0, data, o, s, b, w, wt⟩ := e; revert data
    exact ln_cases fun _ _ _ _ _ _ _ _ _ => rfl
  rw [e1]; exact k
theorem MoH.make (hn : g n = none) {e : Ent} {line : Int} : MoH g (upd g n (some (.cells (encMo ⟨e, line, []⟩ (.slice none 0 0)) .exact))) n (.slice none 0 0) ⟨e, line, []⟩ :=
  ⟨(Sub.refl g).new hn _, hn, upd_same _ _ _, OwnS.nil, fun h => nomatch h⟩
/-- the answer of a move goes into the result's block -/
theorem moveOut {gA : G} {l6 l : Nat} {v : Value} {m : Mov} {K : Cont} {code : Int} (h : MoH gA g l v m) (hs : Sub g0 gA) (h6 : gA l6 = some (.cells (encEnt zeroEnt) .exact)) (h60 : g0 l6 = none)
    (hK : ∀ v' g' n', Sub g0 g' → OwnS encSnd 13 g0 g' v' m.out → K (.tuple #[.agg (encEnt m.e).toArray, v', .int .i64 code]) g' n') :
    kLdN g l (0 + 0) 15 fun c57 => kLd g l (0 + 16) fun v61 => c57.length = 15 ∧ kStN g l6 0 c57 fun g17 => (kPtr (ptr l (0 + 16)) fun l _ => g17 l = g l) ∧ kLdN g17 l6 0 15 fun r0 => aRet K (.tuple #[.agg r0.toArray, v61, .int .i64 code]) g17 n := by
  refine kLdN_of h.at_ (by rw [encMo_len]; decide) ?_
  rw [show 0 + 0 = 0 from rfl, mo_e]
  refine kLd_of h.at_ (mo_16 _ _) (stEn (h.sub.live h6) ⟨?_, ?_⟩)
  · exact upd_ne _ _ (fun e => by have := h.new; rw [e, h6] at this; cases this)
  · refine ldEn (upd_same _ _ _) ?_
    exact aRet_of (Sub.refl _) (hK _ _ _ ((hs.trans h.sub).upd_fresh _ h60) ((OwnS_updO h.own h6 _).base hs))
/-- no answer -/
theorem noOut {l6 : Nat} {K : Cont} {code : Int} {e : Ent} (hs : Sub g0 g) (h6 : g l6 = some (.cells (encEnt zeroEnt) .exact)) (h60 : g0 l6 = none) (hK : ∀ v' g' n', Sub g0 g' → OwnS encSnd 13 g0 g' v' [] → K (.tuple #[.agg (encEnt e).toArray, v', .int .i64 code]) g' n') :
    (encEnt e).length = 15 ∧ kStN g l6 0 (encEnt e) fun g5 => kLdN g5 l6 0 15 fun r0 => aRet K (.tuple #[.agg r0.toArray, .slice none 0 0, .int .i64 code]) g5 n :=
  stEn h6 (ldEn (upd_same _ _ _) (aRet_of (Sub.refl _) (hK _ _ _ (hs.upd_fresh _ h60) OwnS.nil)))
def askE (e : Ent) (by_ : Int) (x : Ms) : Ent × List Snd × Int :=
  if goodE e = false ∨ coreB by_ = false ∨ goodM x = false ∨ asksB x.kind = false then (zeroEnt, [], 1) else
  if e.busy ≠ 0 then (zeroEnt, [], 15) else if e.here = false then (zeroEnt, [], 16) else
  ((Mov.asked ⟨e, x.line, []⟩ by_ x).e, (Mov.asked ⟨e, x.line, []⟩ by_ x).out, 0)
end Go.Proofs.YtjpckcikmfihlaaGreat.Gen

namespace Go.Proofs.YtjpckcikmfihlaaGreat.Gen
open Go Go.Proofs.YtjpckcikmfihlaaGreat.Abs Go.RowKit
variable {g : G} {n : Nat}
set_option maxRecDepth 100000 in
theorem Ask_spec (e : Ent) (by_ : Int) (x : Ms) {K : Cont} (hK : ∀ v' g' n', Sub g g' → OwnS encSnd 13 g g' v' (askE e by_ x).2.1 → K (.tuple #[.agg (encEnt (askE e by_ x).1).toArray, v', .int .i64 (askE e by_ x).2.2]) g' n') :
    AC dir_Ask_id [.agg (encEnt e).toArray, .int .i64 by_, .agg (encM x).toArray] g n K := by
  refine ACalls.fold X0_mono ?_
  rw [← dir_Ask_eq]
  simp only [dir_Ask, kAgg_a, kFill_nil, zEnt]
  intro hn3
  have s1 := (Sub.refl g).new hn3 (some (.cells (encEnt e) .exact))
  have x3 : upd g n (some (.cells (encEnt e) .exact)) n = some (.cells (encEnt e) .exact) := upd_same _ _ _
  generalize upd g n (some (.cells (encEnt e) .exact)) = g1 at s1 x3 ⊢
  intro hn5
  have s2 := (Sub.refl g1).new hn5 (some (.cells (encM x) .exact))
  have x5 : upd g1 (n + 1) (some (.cells (encM x) .exact)) (n + 1) = some (.cells (encM x) .exact) := upd_same _ _ _
  replace x3 := s2.live x3
  replace s2 := s1.trans s2
  generalize upd g1 (n + 1) (some (.cells (encM x) .exact)) = g2 at s2 x3 x5 ⊢
  intro hn6
  have h60 : g (n + 1 + 1) = none := s2.none hn6
  have s3 := (Sub.refl g2).new hn6 (some (.cells (encEnt zeroEnt) .exact))
  have x6 : upd g2 (n + 1 + 1) (some (.cells (encEnt zeroEnt) .exact)) (n + 1 + 1) = some (.cells (encEnt zeroEnt) .exact) := upd_same _ _ _
  replace x3 := s3.live x3
  replace x5 := s3.live x5
  replace s3 := s2.trans s3
  generalize upd g2 (n + 1 + 1) (some (.cells (encEnt zeroEnt) .exact)) = g3 at s3 x3 x5 x6 ⊢
  have bad : ∀ (c : Int) (g4 : G) (n4 : Nat), Sub g3 g4 → askE e by_ x = (zeroEnt, [], c) → ((encEnt zeroEnt).length = 15 ∧ kStN g4 (n + 1 + 1) 0 (encEnt zeroEnt) fun g5 => kLdN g5 (n + 1 + 1) 0 15 fun r0 => aRet K (.tuple #[.agg r0.toArray, .slice none 0 0, .int .i64 c]) g5 n4) := by
    intro c g4 n4 h4 he
    rw [he] at hK
    exact noOut (s3.trans h4) (h4.live x6) h60 hK
  refine ldEn x3 (EGood_spec (fun g4 n4 s4 => wNot (kSp_b (fun h1 => ?_) (fun h1 => ?_))))
  · exact bad 1 _ _ s4 (by unfold askE; rw [if_pos (.inl (by simpa using h1))])
  have h1' : goodE e = true := by simpa using h1
  refine core_spec _ (fun n5 => wNot (kSp_b (fun h2 => ?_) (fun h2 => ?_)))
  · exact bad 1 _ _ s4 (by unfold askE; rw [if_pos (.inr (.inl (by simpa using h2)))])
  have h2' : coreB by_ = true := by simpa using h2
  refine ldM (s4.live x5) (Good_spec (fun n6 => wNot (kSp_b (fun h3 => ?_) (fun h3 => ?_))))
  · exact bad 1 _ _ s4 (by unfold askE; rw [if_pos (.inr (.inr (.inl (by simpa using h3))))])
  have h3' : goodM x = true := by simpa using h3
  refine ldM0 (s4.live x5) (Asks_spec (fun n7 => wNot (kSp_b (fun h5 => ?_) (fun h5 => ?_))))
  · exact bad 1 _ _ s4 (by unfold askE; rw [if_pos (.inr (.inr (.inr (by simpa using h5))))])
  have h5' : asksB x.kind = true := by simpa using h5
  have no1 : ¬ (goodE e = false ∨ coreB by_ = false ∨ goodM x = false ∨ asksB x.kind = false) := by rw [h1', h2', h3', h5']; simp
  refine kLd_of (s4.live x3) (ent_12 e) (wNeq (kSp_d (fun h6 => ?_) (fun h6 => ?_)))
  · exact bad 15 _ _ s4 (by unfold askE; rw [if_neg no1, if_pos h6])
  refine kLd_of (s4.live x3) (ent_0 e) (wNot (kSp_b (fun h7 => ?_) (fun h7 => ?_)))
  · exact bad 16 _ _ s4 (by unfold askE; rw [if_neg no1, if_neg h6, if_pos (by simpa using h7)])
  have he : askE e by_ x = ((Mov.asked ⟨e, x.line, []⟩ by_ x).e, (Mov.asked ⟨e, x.line, []⟩ by_ x).out, 0) := by
    unfold askE; rw [if_neg no1, if_neg h6, if_neg (by simpa using h7)]
  rw [he] at hK
  refine ldEn (s4.live x3) (ldM1 (s4.live x5) (kFill_mo ?_))
  intro hn8
  have hm := MoH.make hn8 (e := e) (line := x.line)
  generalize upd g4 n7 (some (.cells (encMo ⟨e, x.line, []⟩ (.slice none 0 0)) .exact)) = g8 at hm ⊢
  refine ldM0 (hm.sub.live (s4.live x5)) (ldM (hm.sub.live (s4.live x5)) (asks_spec (fun g9 n9 s9 => ⟨?_, ?_, ?_⟩)))
  · exact (s9.live (hm.sub.live (s4.live x5))).trans (hm.sub.live (s4.live x5)).symm
  · exact (s9.live (hm.sub.live (s4.live x5))).trans (hm.sub.live (s4.live x5)).symm
  refine asked_spec (hm.mono s9) by_ x h5' (by show 0 < 900; decide) (fun v' g' n' h' => ?_)
  exact moveOut h' (s3.trans s4) (s4.live x6) h60 hK
end Go.Proofs.YtjpckcikmfihlaaGreat.Gen

namespace Go.Proofs.YtjpckcikmfihlaaGreat.Gen
open Go Go.Proofs.YtjpckcikmfihlaaGreat.Abs Go.RowKit
variable {g : G} {n : Nat}
/-- who gives a line up, or keeps it as a reader -/
def Ent.lose (e : Ent) (by_ : Int) (x : Ms) : Ent :=
  let e2 := Ent.take { e with wait := e.wait &&& ~~~(bitM by_) } x
  let e3 : Ent := if e2.owner = by_ then { e2 with owner := -1 } else e2
  let e4 : Ent := { e3 with share := e3.share &&& ~~~(bitM by_) }
  if x.kept = true then { e4 with share := e4.share ||| bitM by_ } else e4
/-- what the last answer lets go on -/
def Mov.goes (m : Mov) : Mov := if m.e.busy = 1 then Mov.read m.over m.e.who else if m.e.busy = 2 then Mov.own m.over m.e.who 10 else m
def answerE (e : Ent) (by_ : Int) (x : Ms) : Ent × List Snd × Int :=
  if goodE e = false ∨ coreB by_ = false ∨ goodM x = false ∨ answersB x.kind = false then (zeroEnt, [], 1) else
  if e.busy = 0 ∨ hasM e.wait by_ = false then (zeroEnt, [], 16) else
  if nz (e.lose by_ x).wait = true then (e.lose by_ x, [], 0) else
  ((Mov.goes ⟨e.lose by_ x, x.line, []⟩).e, (Mov.goes ⟨e.lose by_ x, x.line, []⟩).out, 0)
section
variable {g0 : G} {by_ : Int} {x : Ms} {K : Cont} {l6 : Nat}
theorem Answer_j3 {gA : G} {l : Nat} {v : Value} {m : Mov} {t : Env} (t9 : t 9 = ptr l 0) (t6 : t 6 = ptr l6 0) (h : MoH gA g l v m) (hs : Sub g0 gA) (h6 : gA l6 = some (.cells (encEnt zeroEnt) .exact)) (h60 : g0 l6 = none)
    (hK : ∀ v' g' n', Sub g0 g' → OwnS encSnd 13 g0 g' v' m.out → K (.tuple #[.agg (encEnt m.e).toArray, v', .int .i64 0]) g' n') : dir_Answer_j3 AC K t g n := by
  simp only [dir_Answer_j3, t9, t6, kNil_p, kPtr_p, kAgg_a]
  exact moveOut h hs h6 h60 hK
theorem Answer_j2 {gA : G} {l : Nat} {v : Value} {m : Mov} {t : Env} (t9 : t 9 = ptr l 0) (t6 : t 6 = ptr l6 0) (h : MoH gA g l v m) (ho : m.out = []) (hs : Sub g0 gA) (h6 : gA l6 = some (.cells (encEnt zeroEnt) .exact)) (h60 : g0 l6 = none)
    (hK : ∀ v' g' n', Sub g0 g' → OwnS encSnd 13 g0 g' v' (if nz m.e.wait = true then [] else m.goes.out) → K (.tuple #[.agg (encEnt (if nz m.e.wait = true then m.e else m.goes.e)).toArray, v', .int .i64 0]) g' n') : dir_Answer_j2 AC K t g n := by
  simp only [dir_Answer_j2, t9, t6, kNil_p, kPtr_p, kAgg_a]
  refine kLd_of h.at_ (mo_14 _ _) (wNz (kSp_b (fun h1 => ?_) (fun h1 => ?_)))
  · rw [if_pos h1, if_pos h1] at hK
    refine kLdN_of h.at_ (by rw [encMo_len]; decide) ?_
    rw [show 0 + 0 = 0 from rfl, mo_e]
    exact noOut (hs.trans h.sub) (h.sub.live h6) h60 hK
  have h1' : ¬ nz m.e.wait = true := by rw [h1]; decide
  rw [if_neg h1', if_neg h1'] at hK
  refine kLd_of h.at_ (mo_13 _ _) (kLd_of h.at_ (mo_12 _ _) (wEql (kSp_d (fun h2 => ?_) (fun h2 => wEql (kSp_d (fun h3 => ?_) (fun h3 => ?_))))))
  · have e : m.goes = Mov.read m.over m.e.who := by unfold Mov.goes; rw [if_pos h2]
    rw [e] at hK
    refine over_spec h (fun g2 n2 a2 => read_spec a2 m.e.who (by show m.out.length < 1000; rw [ho]; decide) (fun v' g3 n3 a3 => ?_))
    exact Answer_j3 t9 t6 a3 hs h6 h60 hK
  · have e : m.goes = Mov.own m.over m.e.who 10 := by unfold Mov.goes; rw [if_neg h2, if_pos h3]
    rw [e] at hK
    refine over_spec h (fun g2 n2 a2 => own_spec a2 m.e.who 10 (by show m.out.length < 1000; rw [ho]; decide) (fun v' g3 n3 a3 => ?_))
    exact Answer_j3 t9 t6 a3 hs h6 h60 hK
  · have e : m.goes = m := by unfold Mov.goes; rw [if_neg h2, if_neg h3]
    rw [e] at hK
    exact Answer_j3 t9 t6 h hs h6 h60 hK
/-- the end of `lose` -/
def Ent.lose4 (e : Ent) (by_ : Int) (x : Ms) : Ent := if x.kept = true then { e with share := (e.share &&& ~~~(bitM by_)) ||| bitM by_ } else { e with share := e.share &&& ~~~(bitM by_) }
theorem Answer_j1 {gA : G} {l l5 : Nat} {v : Value} {m : Mov} {t : Env} (t9 : t 9 = ptr l 0) (t6 : t 6 = ptr l6 0) (t5 : t 5 = ptr l5 0) (t1 : t 1 = .int .i64 by_) (h : MoH gA g l v m) (ho : m.out = []) (hs : Sub g0 gA)
    (h6 : gA l6 = some (.cells (encEnt zeroEnt) .exact)) (h60 : g0 l6 = none) (h5 : gA l5 = some (.cells (encM x) .exact))
    (hK : ∀ (m' : Mov), m' = { m with e := m.e.lose4 by_ x } → ∀ v' g' n', Sub g0 g' → OwnS encSnd 13 g0 g' v' (if nz m'.e.wait = true then [] else m'.goes.out) → K (.tuple #[.agg (encEnt (if nz m'.e.wait = true then m'.e else m'.goes.e)).toArray, v', .int .i64 0]) g' n') : dir_Answer_j1 AC K t g n := by
  simp only [dir_Answer_j1, t9, t5, t1, kNil_p, kPtr_p]
  refine kLd_of h.at_ (mo_11 _ _) (Bit_spec _ (fun n2 => ⟨rfl, kAndNot_m ?_⟩))
  refine h.st11 _ (fun g2 h2 => ?_)
  refine kLd_of (h2.sub.live h5) (show (encM x)[0 + 3]? = some (.bool x.kept) from rfl) (kSp_b (fun k => ?_) (fun k => ?_))
  · refine kLd_of h2.at_ (mo_11 _ _) (Bit_spec _ (fun n3 => ⟨rfl, kOr_m ?_⟩))
    refine h2.st11 _ (fun g3 h3 => ?_)
    exact Answer_j2 t9 t6 h3 ho hs h6 h60 (hK _ (by unfold Ent.lose4; rw [if_pos k]))
  · exact Answer_j2 t9 t6 h2 ho hs h6 h60 (hK _ (by unfold Ent.lose4; rw [if_neg (by rw [k]; decide)]))
end
set_option maxRecDepth 100000 in
theorem Answer_spec (e : Ent) (by_ : Int) (x : Ms) {K : Cont} (hK : ∀ v' g' n', Sub g g' → OwnS encSnd 13 g g' v' (answerE e by_ x).2.1 → K (.tuple #[.agg (encEnt (answerE e by_ x).1).toArray, v', .int .i64 (answerE e by_ x).2.2]) g' n') :
    AC dir_Answer_id [.agg (encEnt e).toArray, .int .i64 by_, .agg (encM x).toArray] g n K := by
  refine ACalls.fold X0_mono ?_
  rw [← dir_Answer_eq]
  simp only [dir_Answer, kAgg_a, kFill_nil, zEnt]
  intro hn3
  have s1 := (Sub.refl g).new hn3 (some (.cells (encEnt e) .exact))
  have x3 : upd g n (some (.cells (encEnt e) .exact)) n = some (.cells (encEnt e) .exact) := upd_same _ _ _
  generalize upd g n (some (.cells (encEnt e) .exact)) = g1 at s1 x3 ⊢
  intro hn5
  have s2 := (Sub.refl g1).new hn5 (some (.cells (encM x) .exact))
  have x5 : upd g1 (n + 1) (some (.cells (encM x) .exact)) (n + 1) = some (.cells (encM x) .exact) := upd_same _ _ _
  replace x3 := s2.live x3
  replace s2 := s1.trans s2
  generalize upd g1 (n + 1) (some (.cells (encM x) .exact)) = g2 at s2 x3 x5 ⊢
  intro hn6
  have h60 : g (n + 1 + 1) = none := s2.none hn6
  have s3 := (Sub.refl g2).new hn6 (some (.cells (encEnt zeroEnt) .exact))
  have x6 : upd g2 (n + 1 + 1) (some (.cells (encEnt zeroEnt) .exact)) (n + 1 + 1) = some (.cells (encEnt zeroEnt) .exact) := upd_same _ _ _
  replace x3 := s3.live x3
  replace x5 := s3.live x5
  replace s3 := s2.trans s3
  generalize upd g2 (n + 1 + 1) (some (.cells (encEnt zeroEnt) .exact)) = g3 at s3 x3 x5 x6 ⊢
  have bad : ∀ (c : Int) (g4 : G) (n4 : Nat), Sub g3 g4 → answerE e by_ x = (zeroEnt, [], c) → ((encEnt zeroEnt).length = 15 ∧ kStN g4 (n + 1 + 1) 0 (encEnt zeroEnt) fun g5 => kLdN g5 (n + 1 + 1) 0 15 fun r0 => aRet K (.tuple #[.agg r0.toArray, .slice none 0 0, .int .i64 c]) g5 n4) := by
    intro c g4 n4 h4 he
    rw [he] at hK
    exact noOut (s3.trans h4) (h4.live x6) h60 hK
  refine ldEn x3 (EGood_spec (fun g4 n4 s4 => wNot (kSp_b (fun h1 => ?_) (fun h1 => ?_))))
  · exact bad 1 _ _ s4 (by unfold answerE; rw [if_pos (.inl (by simpa using h1))])
  have h1' : goodE e = true := by simpa using h1
  refine core_spec _ (fun n5 => wNot (kSp_b (fun h2 => ?_) (fun h2 => ?_)))
  · exact bad 1 _ _ s4 (by unfold answerE; rw [if_pos (.inr (.inl (by simpa using h2)))])
  have h2' : coreB by_ = true := by simpa using h2
  refine ldM (s4.live x5) (Good_spec (fun n6 => wNot (kSp_b (fun h3 => ?_) (fun h3 => ?_))))
  · exact bad 1 _ _ s4 (by unfold answerE; rw [if_pos (.inr (.inr (.inl (by simpa using h3))))])
  have h3' : goodM x = true := by simpa using h3
  refine ldM0 (s4.live x5) (Answers_spec (fun n7 => wNot (kSp_b (fun h5 => ?_) (fun h5 => ?_))))
  · exact bad 1 _ _ s4 (by unfold answerE; rw [if_pos (.inr (.inr (.inr (by simpa using h5))))])
  have h5' : answersB x.kind = true := by simpa using h5
  have no1 : ¬ (goodE e = false ∨ coreB by_ = false ∨ goodM x = false ∨ answersB x.kind = false) := by rw [h1', h2', h3', h5']; simp
  refine kLd_of (s4.live x3) (ent_12 e) (wEql (kSp_d (fun h6 => ?_) (fun h6 => ?_)))
  · exact bad 16 _ _ s4 (by unfold answerE; rw [if_neg no1, if_pos (.inl h6)])
  refine kLd_of (s4.live x3) (ent_14 e) (Has_spec _ _ (fun n8 => wNot (kSp_b (fun h7 => ?_) (fun h7 => ?_))))
  · exact bad 16 _ _ s4 (by unfold answerE; rw [if_neg no1, if_pos (.inr (by simpa using h7))])
  have h7' : hasM e.wait by_ = true := by simpa using h7
  have no2 : ¬ (e.busy = 0 ∨ hasM e.wait by_ = false) := by rw [h7']; simpa using h6
  refine ldEn (s4.live x3) (ldM1 (s4.live x5) (kFill_mo ?_))
  intro hn8
  have hm := MoH.make hn8 (e := e) (line := x.line)
  generalize upd g4 n8 (some (.cells (encMo ⟨e, x.line, []⟩ (.slice none 0 0)) .exact)) = g8 at hm ⊢
  refine kLd_of hm.at_ (mo_14 _ _) (Bit_spec _ (fun n9 => ⟨rfl, kAndNot_m ?_⟩))
  refine hm.st14 _ (fun g9 h9 => ?_)
  refine ldM (h9.sub.live (s4.live x5)) (take_spec h9 x (fun g10 n10 h10 => ?_))
  have fin : ∀ (e4 : Ent) (m' : Mov), Ent.lose4 e4 by_ x = e.lose by_ x → m' = { (⟨e4, x.line, []⟩ : Mov) with e := Ent.lose4 e4 by_ x } → ∀ v' g' n', Sub g g' → OwnS encSnd 13 g g' v' (if nz m'.e.wait = true then [] else m'.goes.out) → K (.tuple #[.agg (encEnt (if nz m'.e.wait = true then m'.e else m'.goes.e)).toArray, v', .int .i64 0]) g' n' := by
    intro e4 m' he hm' v' g' n' hs ho
    subst hm'
    have he' : ({ (⟨e4, x.line, []⟩ : Mov) with e := Ent.lose4 e4 by_ x } : Mov) = ⟨e.lose by_ x, x.line, []⟩ := by rw [he]
    rw [he'] at ho ⊢
    by_cases hw : nz (e.lose by_ x).wait = true
    · have ea : answerE e by_ x = (e.lose by_ x, [], 0) := by unfold answerE; rw [if_neg no1, if_neg no2, if_pos hw]
      rw [ea] at hK
      rw [if_pos hw] at ho ⊢
      exact hK _ _ _ hs ho
    · have ea : answerE e by_ x = ((Mov.goes ⟨e.lose by_ x, x.line, []⟩).e, (Mov.goes ⟨e.lose by_ x, x.line, []⟩).out, 0) := by unfold answerE; rw [if_neg no1, if_neg no2, if_neg hw]
      rw [ea] at hK
      rw [if_neg hw] at ho ⊢
      exact hK _ _ _ hs ho
  refine kLd_of h10.at_ (mo_10 _ _) (wEql (kSp_d (fun ha => ?_) (fun ha => ?_)))
  · refine h10.st10 (-1) (fun g11 h11 => ?_)
    refine Answer_j1 rfl rfl rfl rfl h11 rfl (s3.trans s4) (s4.live x6) h60 (s4.live x5) (fun m' hm' => fin _ m' ?_ hm')
    unfold Ent.lose Ent.lose4
    simp only
    rw [if_pos ha]
  · refine Answer_j1 rfl rfl rfl rfl h10 rfl (s3.trans s4) (s4.live x6) h60 (s4.live x5) (fun m' hm' => fin _ m' ?_ hm')
    unfold Ent.lose Ent.lose4
    simp only
    rw [if_neg ha]
end Go.Proofs.YtjpckcikmfihlaaGreat.Gen

namespace Go.Proofs.YtjpckcikmfihlaaGreat.Gen
open Go Go.Proofs.YtjpckcikmfihlaaGreat.Abs Go.RowKit
variable {g : G} {n : Nat}
def readyE (e : Ent) : Bool := goodE e && decide (e.busy = 4 ∨ e.busy = 5) && !nz e.wait
theorem Ready_spec (e : Ent) {K : Cont} (hK : ∀ g' n', Sub g g' → K (.bool (readyE e)) g' n') : AC dir_Ready_id [.agg (encEnt e).toArray] g n K := by
  refine ACalls.fold X0_mono ?_
  rw [← dir_Ready_eq]
  simp only [dir_Ready, kAgg_a]
  intro hn
  have s1 := (Sub.refl g).new hn (some (.cells (encEnt e) .exact))
  have x3 : upd g n (some (.cells (encEnt e) .exact)) n = some (.cells (encEnt e) .exact) := upd_same _ _ _
  generalize upd g n (some (.cells (encEnt e) .exact)) = g1 at s1 x3 ⊢
  refine ldEn x3 (EGood_spec (fun g2 n2 s2 => ?_))
  replace hK : ∀ n', K (.bool (readyE e)) g2 n' := fun n' => hK _ _ (s1.trans s2)
  have hx := s2.live x3
  refine kSp_b (fun h1 => kLd_of hx (ent_12 e) (wEql (kSp_d (fun h2 => kLd_of hx (ent_14 e) (wZr (lfE hK ?_))) (fun h2 => kLd_of hx (ent_12 e) (wEql (kSp_d (fun h3 => kLd_of hx (ent_14 e) (wZr (lfE hK ?_))) (fun h3 => lfE hK ?_))))))) (fun h1 => lfE hK ?_)
  · unfold readyE; simp [h1, h2]
  · unfold readyE; simp [h1, h3]
  · unfold readyE; simp [h2, h3]
  · unfold readyE; simp [h1]
/-- behind a flush that was pushed -/
def pushedE (e : Ent) : Ent × List Snd × Int :=
  if readyE e = false then (zeroEnt, [], 16) else ((Mov.tell (Mov.over ⟨{ e with dirty := false }, 0, []⟩) e.who 14).e, (Mov.tell (Mov.over ⟨{ e with dirty := false }, 0, []⟩) e.who 14).out, 0)
set_option maxRecDepth 100000 in
theorem Pushed_spec (e : Ent) {K : Cont} (hK : ∀ v' g' n', Sub g g' → OwnS encSnd 13 g g' v' (pushedE e).2.1 → K (.tuple #[.agg (encEnt (pushedE e).1).toArray, v', .int .i64 (pushedE e).2.2]) g' n') :
    AC dir_Pushed_id [.agg (encEnt e).toArray] g n K := by
  refine ACalls.fold X0_mono ?_
  rw [← dir_Pushed_eq]
  simp only [dir_Pushed, kAgg_a, kFill_nil, zEnt]
  intro hn3
  have s1 := (Sub.refl g).new hn3 (some (.cells (encEnt e) .exact))
  have x3 : upd g n (some (.cells (encEnt e) .exact)) n = some (.cells (encEnt e) .exact) := upd_same _ _ _
  generalize upd g n (some (.cells (encEnt e) .exact)) = g1 at s1 x3 ⊢
  intro hn6
  have h60 : g (n + 1) = none := s1.none hn6
  have s3 := (Sub.refl g1).new hn6 (some (.cells (encEnt zeroEnt) .exact))
  have x6 : upd g1 (n + 1) (some (.cells (encEnt zeroEnt) .exact)) (n + 1) = some (.cells (encEnt zeroEnt) .exact) := upd_same _ _ _
  replace x3 := s3.live x3
  replace s3 := s1.trans s3
  generalize upd g1 (n + 1) (some (.cells (encEnt zeroEnt) .exact)) = g3 at s3 x3 x6 ⊢
  refine ldEn x3 (Ready_spec e (fun g4 n4 s4 => wNot (kSp_b (fun h1 => ?_) (fun h1 => ?_))))
  · have he : pushedE e = (zeroEnt, [], 16) := by unfold pushedE; rw [if_pos (by simpa using h1)]
    rw [he] at hK
    exact noOut (s3.trans s4) (s4.live x6) h60 hK
  have he : pushedE e = ((Mov.tell (Mov.over ⟨{ e with dirty := false }, 0, []⟩) e.who 14).e, (Mov.tell (Mov.over ⟨{ e with dirty := false }, 0, []⟩) e.who 14).out, 0) := by
    unfold pushedE; rw [if_neg (by simpa using h1)]
  rw [he] at hK
  refine ldEn (s4.live x3) (kFill_mo0 ?_)
  intro hn8
  have hm := MoH.make hn8 (e := e) (line := 0)
  generalize upd g4 n4 (some (.cells (encMo ⟨e, 0, []⟩ (.slice none 0 0)) .exact)) = g8 at hm ⊢
  refine hm.st1 false (fun g9 h9 => ?_)
  refine kLd_of (h9.sub.live (s4.live x3)) (ent_13 e) (over_spec h9 (fun g10 n10 h10 => tell_spec h10 e.who 14 (by show 0 < 1000; decide) (fun v' g11 n11 h11 => ?_)))
  exact moveOut h11 (s3.trans s4) (s4.live x6) h60 hK
end Go.Proofs.YtjpckcikmfihlaaGreat.Gen

namespace Go.Proofs.YtjpckcikmfihlaaGreat.Gen
open Go Go.Proofs.YtjpckcikmfihlaaGreat.Abs Go.RowKit
variable {g : G} {n : Nat}
/-! a system of caches -/
structure Cfg where
  cores : Int
  lines : Int
  vol : Int
  sets : Int
  ways : Int
  queue : Int
  store : Int
def encC (c : Cfg) : List Value := [.int .i64 c.cores, .int .i64 c.lines, .int .i64 c.vol, .int .i64 c.sets, .int .i64 c.ways, .int .i64 c.queue, .int .i64 c.store]
/-- a core's L1, and its queues -/
structure Nd where
  A : Arr
  up : List Ms
  ans : List Ms
  dn : List Ms
structure Sys where
  c : Cfg
  nodes : List Nd
  dir : List Ent
  q : List En
  D : Dev
/-- where a node's things lie -/
structure NV where
  lg : Nat
  la : Nat
  ls : Nat
  vu : Value
  va : Value
  vd : Value
def encN (x : NV) : List Value := [ptr x.lg 0, x.vu, x.va, x.vd]
theorem encN_len (x : NV) : (encN x).length = 4 := rfl
structure NodeH (o : Col Cl) (g : G) (i : Nat) (x : NV) (N : Nd) : Prop where
  og : o x.lg = some (.ag i)
  oa : o x.la = some (.ag i)
  os : o x.ls = some (.ag i)
  ag : AgH g x.lg x.la x.ls N.A
  up : QV encM 12 o (.up i) g x.vu N.up
  ans : QV encM 12 o (.ans i) g x.va N.ans
  dn : QV encM 12 o (.dn i) g x.vd N.dn
theorem AgH.of_eq {g' : G} {lg la ls : Nat} {A : Arr} (h : AgH g lg la ls A) (e1 : g' lg = g lg) (e2 : g' la = g la) (e3 : g' ls = g ls) : AgH g' lg la ls A := by
  obtain ⟨h1, ⟨h2, h3, h5⟩, h6, h7⟩ := h
  exact ⟨e1.trans h1, ⟨e2.trans h2, e3.trans h3, h5⟩, h6, h7⟩
theorem NodeH.kept {o o' : Col Cl} {g' : G} {t : Cl → Prop} {i : Nat} {x : NV} {N : Nd} (h : NodeH o g i x N) (k : Kept t o o' g g') (h1 : ¬ t (.ag i)) (h2 : ¬ t (.up i)) (h3 : ¬ t (.ans i)) (h4 : ¬ t (.dn i)) : NodeH o' g' i x N :=
  ⟨(k.col _ _ h.og h1).1, (k.col _ _ h.oa h1).1, (k.col _ _ h.os h1).1, h.ag.of_eq (k.col _ _ h.og h1).2 (k.col _ _ h.oa h1).2 (k.col _ _ h.os h1).2, h.up.kept k h2, h.ans.kept k h3, h.dn.kept k h4⟩
theorem NodeH.mono {o : Col Cl} {g' : G} {i : Nat} {x : NV} {N : Nd} (h : NodeH o g i x N) (hs : Sub g g') : NodeH o g' i x N :=
  ⟨h.og, h.oa, h.os, h.ag.mono hs, h.up.of_sub hs, h.ans.of_sub hs, h.dn.of_sub hs⟩
/-- where a system's things lie -/
structure SysW where
  ln : Nat
  ld : Nat
  lq : Nat
  le : Nat
  lm : Nat
  v : Value
  st : Int
  ns : List NV
def sysC (W : SysW) (S : Sys) : List Value := encC S.c ++ [.slice (some ⟨W.ln, 0, none⟩) S.nodes.length S.nodes.length, .slice (some ⟨W.ld, 0, none⟩) S.dir.length S.dir.length, ptr W.lq 0, .int .i64 W.st]
structure SysH (o : Col Cl) (g : G) (l : Nat) (W : SysW) (S : Sys) : Prop where
  live : Live o g
  osys : o l = some .sys
  hsys : g l = some (.cells (sysC W S) .exact)
  onodes : o W.ln = some .nodes
  hnodes : g W.ln = some (.cells (W.ns.map encN).flatten .exact)
  len : W.ns.length = S.nodes.length
  node : ∀ (i : Nat) x N, W.ns[i]? = some x → S.nodes[i]? = some N → NodeH o g i x N
  odir : o W.ld = some .dir
  hdir : g W.ld = some (.cells (S.dir.map encEnt).flatten .exact)
  que : QuH o g W.lq W.le S.c.queue W.v S.q
  dev : DevH o g W.le W.lm S.D
theorem SysH.mono {o : Col Cl} {g' : G} {l : Nat} {W : SysW} {S : Sys} (h : SysH o g l W S) (hs : Sub g g') : SysH o g' l W S :=
  ⟨h.live.sub hs, h.osys, hs.live h.hsys, h.onodes, hs.live h.hnodes, h.len, fun i x N a b => (h.node i x N a b).mono hs, h.odir, hs.live h.hdir, h.que.mono hs, h.dev.mono hs⟩
theorem Sub.uncs {o : Col Cl} {g' : G} (ho : Live o g) (hs : Sub g g') : Sub (unc o g) (unc o g') := (Kept.of_sub (t := fun _ => False) ho hs).unc
/-- the colours of a node, and the nodes' block -/
def isNode (i : Nat) (c : Cl) : Prop := c = .ag i ∨ c = .up i ∨ c = .ans i ∨ c = .dn i ∨ c = .nodes
def Sys.setN (S : Sys) (i : Nat) (N : Nd) : Sys := { S with nodes := S.nodes.set i N }
theorem SysH.node_set {o o' : Col Cl} {g' : G} {l i : Nat} {W : SysW} {S : Sys} {x' : NV} {N' : Nd} (h : SysH o g l W S) (hk : Kept (isNode i) o o' g g') (hL : Live o' g') (hon : o' W.ln = some .nodes)
    (hln : g' W.ln = some (.cells ((W.ns.set i x').map encN).flatten .exact)) (hN : i < S.nodes.length → NodeH o' g' i x' N') : SysH o' g' l { W with ns := W.ns.set i x' } (S.setN i N') := by
  have nt : ∀ c, (∀ j, c ≠ .ag j ∧ c ≠ .up j ∧ c ≠ .ans j ∧ c ≠ .dn j) → c ≠ .nodes → ¬ isNode i c := by
    rintro c h1 h2 (e | e | e | e | e)
    · exact (h1 i).1 e
    · exact (h1 i).2.1 e
    · exact (h1 i).2.2.1 e
    · exact (h1 i).2.2.2 e
    · exact h2 e
  have e0 : sysC { W with ns := W.ns.set i x' } (S.setN i N') = sysC W S := by unfold sysC Sys.setN; simp
  refine ⟨hL, (hk.col _ _ h.osys (nt _ (by simp) (by simp))).1, by rw [e0, (hk.col _ _ h.osys (nt _ (by simp) (by simp))).2]; exact h.hsys, hon, hln, by simp [Sys.setN, h.len], ?_,
    (hk.col _ _ h.odir (nt _ (by simp) (by simp))).1, (hk.col _ _ h.odir (nt _ (by simp) (by simp))).2.trans h.hdir, h.que.kept hk (nt _ (by simp) (by simp)) (nt _ (by simp) (by simp)), h.dev.kept hk (nt _ (by simp) (by simp)) (nt _ (by simp) (by simp))⟩
  intro j x N hx hN'
  simp only [Sys.setN] at hN'
  by_cases hj : i = j
  · subst hj
    have h1 := lt_of_get hx
    have h2 := lt_of_get hN'
    rw [List.length_set] at h1 h2
    rw [List.getElem?_set_self h1] at hx
    rw [List.getElem?_set_self h2] at hN'
    cases hx; cases hN'
    exact hN h2
  · rw [List.getElem?_set_ne hj] at hx hN'
    have := h.node j x N hx hN'
    refine this.kept hk ?_ ?_ ?_ ?_
    all_goals
      rintro (e | e | e | e | e) <;> first | (cases e; done) | (cases e; exact hj rfl)
theorem set_self {α : Type} {l : List α} {i : Nat} {x : α} (h : l[i]? = some x) : l.set i x = l := by
  apply List.ext_getElem?
  intro j
  by_cases hj : i = j
  · subst hj; rw [List.getElem?_set_self (lt_of_get h), h]
  · rw [List.getElem?_set_ne hj]
theorem Sl_unc {α : Type} {enc : α → List Value} {z : Nat} {o : Col Cl} {v : Value} {xs : List α} (h : Sl enc z g v xs) (hf : ∀ l, blkOf v = some l → o l = none) : Sl enc z (unc o g) v xs := by
  obtain ⟨a, c, rfl, h1, h2, h3⟩ := h
  refine ⟨a, c, rfl, h1, h2, fun hm => ?_⟩
  obtain ⟨l, i, bs, bk, rfl, h4⟩ := h3 hm
  exact ⟨l, i, bs, bk, rfl, by rw [unc_none (hf l rfl)]; exact h4.1, h4.2⟩
/-- an agent changes -/
theorem SysH.agent {o : Col Cl} {g' : G} {l i : Nat} {W : SysW} {S : Sys} {x : NV} {N : Nd} {A' : Arr} {v : Value} {ms : List Ms} (h : SysH o g l W S) (hx : W.ns[i]? = some x) (hN : S.nodes[i]? = some N) (ho : Out g g' x.lg x.la x.ls A' v ms) :
    SysH o g' l W (S.setN i { N with A := A' }) ∧ Sub (unc o g) (unc o g') ∧ Sl encM 12 (unc o g') v ms := by
  have hn := h.node i x N hx hN
  have hk : Kept (isNode i) o o g g' := Kept.of_hide h.live hn.oa hn.os (.inl rfl) (.inl rfl) ho.hs
  have hka : Kept (· = Cl.ag i) o o g g' := Kept.of_hide h.live hn.oa hn.os rfl rfl ho.hs
  have hL : Live o g' := by
    refine h.live.of_kept hka (fun l c e hc => ?_)
    subst hc
    by_cases h1 : l = x.la
    · subst h1; exact ⟨_, ho.ag.arr.obj⟩
    · by_cases h2 : l = x.ls
      · subst h2; exact ⟨_, ho.ag.arr.row⟩
      · obtain ⟨b, hb⟩ := h.live l _ e
        exact ⟨b, ho.hs.live (hide_live h1 h2 hb)⟩
  have e1 : W.ns.set i x = W.ns := set_self hx
  have := h.node_set (x' := x) (N' := { N with A := A' }) hk hL h.onodes (by rw [e1, (hka.col _ _ h.onodes (by simp)).2]; exact h.hnodes) (fun _ =>
    ⟨hn.og, hn.oa, hn.os, ho.ag, hn.up.kept hka (by simp), hn.ans.kept hka (by simp), hn.dn.kept hka (by simp)⟩)
  rw [e1] at this
  exact ⟨this, hk.unc, Sl_unc ho.sl (fun l hl => h.live.fresh (ho.fr l hl))⟩
end Go.Proofs.YtjpckcikmfihlaaGreat.Gen

namespace Go.Proofs.YtjpckcikmfihlaaGreat.Gen
open Go Go.Proofs.YtjpckcikmfihlaaGreat.Abs Go.RowKit
variable {g : G} {n : Nat}
/-- the core's node -/
def Sys.at (S : Sys) (core : Int) : Option (Nat × Nd) := if 0 ≤ core then (S.nodes[core.toNat]?).map (fun N => (core.toNat, N)) else none
theorem Sys.at_some {S : Sys} {core : Int} {i : Nat} {N : Nd} (h : S.at core = some (i, N)) : core = (i : Nat) ∧ S.nodes[i]? = some N := by
  unfold Sys.at at h
  split at h
  · rename_i h0
    cases e : S.nodes[core.toNat]? with
    | none => rw [e] at h; cases h
    | some M => rw [e] at h; cases h; exact ⟨by omega, e⟩
  · cases h
theorem Sys.at_of {S : Sys} {i : Nat} {N : Nd} (h : S.nodes[i]? = some N) : S.at (i : Nat) = some (i, N) := by
  unfold Sys.at; rw [if_pos (by omega), Int.toNat_natCast, h]; rfl
theorem Sys.at_none {S : Sys} {core : Int} (h : ¬ (0 ≤ core ∧ core < S.nodes.length)) : S.at core = none := by
  unfold Sys.at
  split
  · rw [List.getElem?_eq_none (by omega)]; rfl
  · rfl
def Sys.line (S : Sys) (x : Int) : Bool := decide (0 ≤ x ∧ x < S.dir.length)
theorem sysC_get {W : SysW} {S : Sys} {i : Nat} : (sysC W S)[7 + i]? = [Value.slice (some ⟨W.ln, 0, none⟩) S.nodes.length S.nodes.length, .slice (some ⟨W.ld, 0, none⟩) S.dir.length S.dir.length, ptr W.lq 0, .int .i64 W.st][i]? := by
  unfold sysC
  rw [List.getElem?_append_right (by simp [encC])]
  simp [encC]
theorem ns_get {xs : List NV} {i k : Nat} {x : NV} (hx : xs[i]? = some x) (hk : k < 4) : (xs.map encN).flatten[i * 4 + k]? = (encN x)[k]? := by
  have h := flat_at encN 4 encN_len xs i x hx
  rw [← h, List.getElem?_take, if_pos hk, List.getElem?_drop]
theorem ns_set {x x' : NV} {k : Nat} {v : Value} (hk : k < 4) (he : encN x' = (encN x).set k v) : ∀ {xs : List NV} {i : Nat}, xs[i]? = some x → (xs.map encN).flatten.set (i * 4 + k) v = ((xs.set i x').map encN).flatten
  | [], i, h => by cases i <;> cases h
  | y :: ys, 0, h => by
    cases h
    simp only [List.set_cons_zero, List.map_cons, List.flatten_cons, Nat.zero_mul, Nat.zero_add]
    rw [List.set_append_left _ _ (by rw [encN_len]; exact hk), he]
  | y :: ys, i + 1, h => by
    simp only [List.set_cons_succ, List.map_cons, List.flatten_cons]
    rw [List.set_append_right _ _ (by rw [encN_len]; omega), encN_len, show (i + 1) * 4 + k - 4 = i * 4 + k by omega, ns_set hk he (xs := ys) (i := i) h]
theorem SysH.lds {o : Col Cl} {l : Nat} {W : SysW} {S : Sys} (h : SysH o g l W S) {i : Nat} {v : Value} {K : Value → Prop} (hv : (sysC W S)[i]? = some v) (k : K v) : kLd g l (0 + i) K := by
  refine kLd_of h.hsys (by rw [Nat.zero_add]; exact hv) k
section
variable {o : Col Cl} {l : Nat} {W : SysW} {S : Sys} {K : Cont}
theorem sat_spec (h : SysH o g l W S) (core : Int) (hno : S.at core = none → ∀ n', K (.pointer none) g n')
    (hyes : ∀ i N, S.at core = some (i, N) → core = (i : Nat) → S.nodes[i]? = some N → ∀ x, W.ns[i]? = some x → ∀ g' n' st, Sub (unc o g) (unc o g') → SysH o g' l { W with st := st } S → K (ptr W.ln (i * 4)) g' n') : AC mesi_System_at_id [ptr l 0, .int .i64 core] g n K := by
  refine ACalls.fold X0_mono ?_
  rw [← mesi_System_at_eq]
  simp only [mesi_System_at, kNil_p, kPtr_p]
  refine wNilQ (kSp_b (fun h => nomatch h) (fun _ => wLss (kSp_d (fun h0 => ?_) (fun h0 => ?_))))
  · exact aRet_of (Sub.refl _) (hno (Sys.at_none (by omega)) _)
  refine h.lds (sysC_get (i := 0)) ?_
  simp only [kLen_s]
  refine wGeq (kSp_d (fun h1 => ?_) (fun h1 => ?_))
  · exact aRet_of (Sub.refl _) (hno (Sys.at_none (by omega)) _)
  obtain ⟨i, rfl⟩ : ∃ i : Nat, core = i := ⟨core.toNat, by omega⟩
  have hi : i < S.nodes.length := by omega
  have hN : S.nodes[i]? = some S.nodes[i] := List.getElem?_eq_getElem hi
  have hx : W.ns[i]? = some (W.ns[i]'(by rw [h.len]; exact hi)) := List.getElem?_eq_getElem _
  have hst : ∀ x, (sysC W S).set (0 + 10) (.int .i64 x) = sysC { W with st := x } S := fun x => rfl
  refine Add64_spec h.hsys rfl (sysC_get (i := 3)) (fun n1 => ?_)
  rw [hst]
  have hk : Kept (· = Cl.sys) o o g (upd g l (some (.cells (sysC { W with st := IntKind.i64.wrap (W.st + 1) } S) .exact))) := Kept.upd (t := (· = Cl.sys)) h.osys rfl _
  have h2 : SysH o (upd g l (some (.cells (sysC { W with st := IntKind.i64.wrap (W.st + 1) } S) .exact))) l { W with st := IntKind.i64.wrap (W.st + 1) } S :=
    ⟨h.live.upd _ _, h.osys, upd_same _ _ _, h.onodes, (hk.col _ _ h.onodes (by simp)).2.trans h.hnodes, h.len, fun j x N a b => (h.node j x N a b).kept hk (by simp) (by simp) (by simp) (by simp), h.odir, (hk.col _ _ h.odir (by simp)).2.trans h.hdir, h.que.kept hk (by simp) (by simp), h.dev.kept hk (by simp) (by simp)⟩
  generalize upd g l (some (.cells (sysC { W with st := IntKind.i64.wrap (W.st + 1) } S) .exact)) = g2 at hk h2 ⊢
  refine h2.lds (sysC_get (i := 0)) ?_
  refine kIndexAddr_s (by omega) (by omega) ?_
  exact aRet_of (Sub.refl _) (by
    have := hyes i _ (Sys.at_of hN) rfl hN _ hx g2 n1 _ hk.unc h2
    simpa using this)
theorem sline_spec (h : SysH o g l W S) (x : Int) (hK : ∀ n', K (.bool (S.line x)) g n') : AC mesi_System_line_id [ptr l 0, .int .i64 x] g n K := by
  refine ACalls.fold X0_mono ?_
  rw [← mesi_System_line_eq]
  simp only [mesi_System_line, kNil_p, kPtr_p]
  refine wNilP (kSp_b (fun _ => wGeq (kSp_d (fun h0 => h.lds (sysC_get (i := 1)) ?_) (fun h0 => lfE hK ?_))) (fun h => nomatch h))
  · simp only [kLen_s]
    refine wLss (lfE hK ?_)
    unfold Sys.line; simp [h0]
  · unfold Sys.line; simp [h0]
end
end Go.Proofs.YtjpckcikmfihlaaGreat.Gen

namespace Go.Proofs.YtjpckcikmfihlaaGreat.Gen
open Go Go.Proofs.YtjpckcikmfihlaaGreat.Abs Go.RowKit
variable {g : G} {n : Nat}
def pushAll (q l : List Ms) : List Ms := l.foldl (fun q m => (pushQ q m).1) q
theorem pushAll_snoc (q l : List Ms) (m : Ms) : pushAll q (l ++ [m]) = (pushQ (pushAll q l) m).1 := by simp [pushAll]
theorem setN_setN (S : Sys) (i : Nat) (a b : Nd) : (S.setN i a).setN i b = S.setN i b := by simp [Sys.setN]
theorem setN_get {S : Sys} {i : Nat} {a N : Nd} (h : S.nodes[i]? = some N) : (S.setN i a).nodes[i]? = some a := by
  simp only [Sys.setN]; exact List.getElem?_set_self (lt_of_get h)
theorem setN_len (S : Sys) (i : Nat) (a : Nd) : (S.setN i a).nodes.length = S.nodes.length := by simp [Sys.setN]
theorem setN_self {S : Sys} {i : Nat} {N : Nd} (h : S.nodes[i]? = some N) : S.setN i N = S := by
  simp only [Sys.setN, set_self h]
theorem SysH.nv {o : Col Cl} {l : Nat} {W : SysW} {S : Sys} (h : SysH o g l W S) {i : Nat} {N : Nd} (hN : S.nodes[i]? = some N) : ∃ x, W.ns[i]? = some x :=
  ⟨_, List.getElem?_eq_getElem (by rw [h.len]; exact lt_of_get hN)⟩
section
variable {o : Col Cl} {l : Nat} {W : SysW} {S : Sys} {K : Cont} {i : Nat} {N : Nd} {x : NV}
theorem push_up (h : SysH o g l W S) (hx : W.ns[i]? = some x) (hN : S.nodes[i]? = some N) (m : Ms)
    (hK : ∀ o' g' n' W', Sub (unc o g) (unc o' g') → W'.ln = W.ln → SysH o' g' l W' (S.setN i { N with up := (pushQ N.up m).1 }) → K (.int .i64 (pushQ N.up m).2) g' n') :
    AC msg_Queue_Push_id [ptr W.ln (i * 4 + 1), .agg (encM m).toArray] g n K := by
  have hn := h.node i x N hx hN
  refine Push_spec (d := Cl.nodes) h.live h.hnodes rfl h.onodes (by simp) ((ns_get hx (by decide)).trans (show (encN x)[1]? = some x.vu from rfl)) hn.up (fun o' g' n' v' k' L' on' hg' q' => ?_)
  have hk : Kept (isNode i) o o' g g' := k'.mono (fun c hc => hc.elim (fun e => .inr (.inl e)) (fun e => .inr (.inr (.inr (.inr e)))))
  refine hK o' g' n' { W with ns := W.ns.set i { x with vu := v' } } hk.unc rfl (h.node_set hk L' on' ?_ (fun _ => ?_))
  · rw [hg', ns_set (by decide) (show encN { x with vu := v' } = (encN x).set 1 v' from rfl) hx]
  · refine ⟨(k'.col _ _ hn.og (by simp)).1, (k'.col _ _ hn.oa (by simp)).1, (k'.col _ _ hn.os (by simp)).1, hn.ag.of_eq (k'.col _ _ hn.og (by simp)).2 (k'.col _ _ hn.oa (by simp)).2 (k'.col _ _ hn.os (by simp)).2, q', hn.ans.kept k' (by simp), hn.dn.kept k' (by simp)⟩
theorem push_ans (h : SysH o g l W S) (hx : W.ns[i]? = some x) (hN : S.nodes[i]? = some N) (m : Ms)
    (hK : ∀ o' g' n' W', Sub (unc o g) (unc o' g') → W'.ln = W.ln → SysH o' g' l W' (S.setN i { N with ans := (pushQ N.ans m).1 }) → K (.int .i64 (pushQ N.ans m).2) g' n') :
    AC msg_Queue_Push_id [ptr W.ln (i * 4 + 2), .agg (encM m).toArray] g n K := by
  have hn := h.node i x N hx hN
  refine Push_spec (d := Cl.nodes) h.live h.hnodes rfl h.onodes (by simp) ((ns_get hx (by decide)).trans (show (encN x)[2]? = some x.va from rfl)) hn.ans (fun o' g' n' v' k' L' on' hg' q' => ?_)
  have hk : Kept (isNode i) o o' g g' := k'.mono (fun c hc => hc.elim (fun e => .inr (.inr (.inl e))) (fun e => .inr (.inr (.inr (.inr e)))))
  refine hK o' g' n' { W with ns := W.ns.set i { x with va := v' } } hk.unc rfl (h.node_set hk L' on' ?_ (fun _ => ?_))
  · rw [hg', ns_set (by decide) (show encN { x with va := v' } = (encN x).set 2 v' from rfl) hx]
  · refine ⟨(k'.col _ _ hn.og (by simp)).1, (k'.col _ _ hn.oa (by simp)).1, (k'.col _ _ hn.os (by simp)).1, hn.ag.of_eq (k'.col _ _ hn.og (by simp)).2 (k'.col _ _ hn.oa (by simp)).2 (k'.col _ _ hn.os (by simp)).2, hn.up.kept k' (by simp), q', hn.dn.kept k' (by simp)⟩
theorem push_dn (h : SysH o g l W S) (hx : W.ns[i]? = some x) (hN : S.nodes[i]? = some N) (m : Ms)
    (hK : ∀ o' g' n' W', Sub (unc o g) (unc o' g') → W'.ln = W.ln → SysH o' g' l W' (S.setN i { N with dn := (pushQ N.dn m).1 }) → K (.int .i64 (pushQ N.dn m).2) g' n') :
    AC msg_Queue_Push_id [ptr W.ln (i * 4 + 3), .agg (encM m).toArray] g n K := by
  have hn := h.node i x N hx hN
  refine Push_spec (d := Cl.nodes) h.live h.hnodes rfl h.onodes (by simp) ((ns_get hx (by decide)).trans (show (encN x)[3]? = some x.vd from rfl)) hn.dn (fun o' g' n' v' k' L' on' hg' q' => ?_)
  have hk : Kept (isNode i) o o' g g' := k'.mono (fun c hc => hc.elim (fun e => .inr (.inr (.inr (.inl e)))) (fun e => .inr (.inr (.inr (.inr e)))))
  refine hK o' g' n' { W with ns := W.ns.set i { x with vd := v' } } hk.unc rfl (h.node_set hk L' on' ?_ (fun _ => ?_))
  · rw [hg', ns_set (by decide) (show encN { x with vd := v' } = (encN x).set 3 v' from rfl) hx]
  · refine ⟨(k'.col _ _ hn.og (by simp)).1, (k'.col _ _ hn.oa (by simp)).1, (k'.col _ _ hn.os (by simp)).1, hn.ag.of_eq (k'.col _ _ hn.og (by simp)).2 (k'.col _ _ hn.oa (by simp)).2 (k'.col _ _ hn.os (by simp)).2, hn.up.kept k' (by simp), hn.ans.kept k' (by simp), q'⟩
theorem pop_ans (h : SysH o g l W S) (hx : W.ns[i]? = some x) (hN : S.nodes[i]? = some N)
    (hK : ∀ g' n' W', Sub (unc o g) (unc o g') → W'.ln = W.ln → SysH o g' l W' (S.setN i { N with ans := N.ans.tail }) → K (.tuple #[.agg (encM (N.ans.headD zeroM)).toArray, .bool (!N.ans.isEmpty)]) g' n') :
    AC msg_Queue_Pop_id [ptr W.ln (i * 4 + 2)] g n K := by
  have hn := h.node i x N hx hN
  refine Pop_spec (d := Cl.nodes) h.live h.hnodes rfl h.onodes (by simp) ((ns_get hx (by decide)).trans (show (encN x)[2]? = some x.va from rfl)) hn.ans (fun g' n' v' k' L' hg' q' => ?_)
  have hk : Kept (isNode i) o o g g' := k'.mono (fun c hc => .inr (.inr (.inr (.inr hc))))
  refine hK g' n' { W with ns := W.ns.set i { x with va := v' } } hk.unc rfl (h.node_set hk L' h.onodes ?_ (fun _ => ?_))
  · rw [hg', ns_set (by decide) (show encN { x with va := v' } = (encN x).set 2 v' from rfl) hx]
  · refine ⟨hn.og, hn.oa, hn.os, hn.ag.of_eq (k'.col _ _ hn.og (by simp)).2 (k'.col _ _ hn.oa (by simp)).2 (k'.col _ _ hn.os (by simp)).2, hn.up.kept k' (by simp), q', hn.dn.kept k' (by simp)⟩
theorem pop_up (h : SysH o g l W S) (hx : W.ns[i]? = some x) (hN : S.nodes[i]? = some N)
    (hK : ∀ g' n' W', Sub (unc o g) (unc o g') → W'.ln = W.ln → SysH o g' l W' (S.setN i { N with up := N.up.tail }) → K (.tuple #[.agg (encM (N.up.headD zeroM)).toArray, .bool (!N.up.isEmpty)]) g' n') :
    AC msg_Queue_Pop_id [ptr W.ln (i * 4 + 1)] g n K := by
  have hn := h.node i x N hx hN
  refine Pop_spec (d := Cl.nodes) h.live h.hnodes rfl h.onodes (by simp) ((ns_get hx (by decide)).trans (show (encN x)[1]? = some x.vu from rfl)) hn.up (fun g' n' v' k' L' hg' q' => ?_)
  have hk : Kept (isNode i) o o g g' := k'.mono (fun c hc => .inr (.inr (.inr (.inr hc))))
  refine hK g' n' { W with ns := W.ns.set i { x with vu := v' } } hk.unc rfl (h.node_set hk L' h.onodes ?_ (fun _ => ?_))
  · rw [hg', ns_set (by decide) (show encN { x with vu := v' } = (encN x).set 1 v' from rfl) hx]
  · refine ⟨hn.og, hn.oa, hn.os, hn.ag.of_eq (k'.col _ _ hn.og (by simp)).2 (k'.col _ _ hn.oa (by simp)).2 (k'.col _ _ hn.os (by simp)).2, q', hn.ans.kept k' (by simp), hn.dn.kept k' (by simp)⟩
theorem pop_dn (h : SysH o g l W S) (hx : W.ns[i]? = some x) (hN : S.nodes[i]? = some N)
    (hK : ∀ g' n' W', Sub (unc o g) (unc o g') → W'.ln = W.ln → SysH o g' l W' (S.setN i { N with dn := N.dn.tail }) → K (.tuple #[.agg (encM (N.dn.headD zeroM)).toArray, .bool (!N.dn.isEmpty)]) g' n') :
    AC msg_Queue_Pop_id [ptr W.ln (i * 4 + 3)] g n K := by
  have hn := h.node i x N hx hN
  refine Pop_spec (d := Cl.nodes) h.live h.hnodes rfl h.onodes (by simp) ((ns_get hx (by decide)).trans (show (encN x)[3]? = some x.vd from rfl)) hn.dn (fun g' n' v' k' L' hg' q' => ?_)
  have hk : Kept (isNode i) o o g g' := k'.mono (fun c hc => .inr (.inr (.inr (.inr hc))))
  refine hK g' n' { W with ns := W.ns.set i { x with vd := v' } } hk.unc rfl (h.node_set hk L' h.onodes ?_ (fun _ => ?_))
  · rw [hg', ns_set (by decide) (show encN { x with vd := v' } = (encN x).set 3 v' from rfl) hx]
  · refine ⟨hn.og, hn.oa, hn.os, hn.ag.of_eq (k'.col _ _ hn.og (by simp)).2 (k'.col _ _ hn.oa (by simp)).2 (k'.col _ _ hn.os (by simp)).2, hn.up.kept k' (by simp), hn.ans.kept k' (by simp), q'⟩
theorem nask_spec (h : SysH o g l W S) (hN : S.nodes[i]? = some N) {v : Value} {ms : List Ms} (hms : Sl encM 12 (unc o g) v ms) (hlen : ms.length < 1000000)
    (hK : ∀ o' g' n' W', Sub (unc o g) (unc o' g') → W'.ln = W.ln → SysH o' g' l W' (S.setN i { N with up := pushAll N.up ms }) → K (.tuple #[]) g' n') : AC mesi_node_ask_id [ptr W.ln (i * 4), v] g n K := by
  refine ACalls.fold X0_mono ?_
  rw [← mesi_node_ask_eq]
  simp only [mesi_node_ask]
  refine hms.len ?_
  refine lfp_ind (m := ms.length) (Inv := fun q t g9 n9 => ∃ (j : Nat) (o9 : Col Cl) (W9 : SysW), q + j = ms.length ∧ Sub (unc o g) (unc o9 g9) ∧ W9.ln = W.ln ∧ SysH o9 g9 l W9 (S.setN i { N with up := pushAll N.up (ms.take j) }) ∧ t 0 = ptr W.ln (i * 4) ∧ t 6 = v ∧ t 7 = .int .i64 ms.length ∧ t 8 = .int .i64 (j : Nat)) ?_
    ⟨0, o, W, by omega, Sub.refl _, rfl, by rw [List.take_zero]; show SysH o g l W (S.setN i N); rw [setN_self hN]; exact h, rfl, rfl, rfl, rfl⟩
  rintro I q t g9 n9 ih ⟨j, o9, W9, hj, s9, w9, h9, t0, t6, t7, t8⟩
  simp only [mesi_node_ask_l1, t0, t6, t7, t8, kBin_lss, kNil_p, kPtr_p]
  by_cases hj' : j < ms.length
  · refine kSplit_t (decide_eq_true (by omega)) ?_
    obtain ⟨m, hm⟩ : ∃ m, ms[j]? = some m := ⟨ms[j], List.getElem?_eq_getElem hj'⟩
    refine ((hms.mono s9).mono (unc_sub _ _)).idx encM_len hm (fun li oi ha => ?_)
    simp only [kPtr_p]
    refine ha.ldN (by rw [encM_len]) ?_
    intro hn
    have s1 := (Sub.refl g9).new hn (some (.cells (encM zeroM) .exact))
    have hx0 : upd g9 n9 (some (.cells (encM zeroM) .exact)) n9 = some (.cells (encM zeroM) .exact) := upd_same _ _ _
    change kAgg (.agg (encM m).toArray) fun cg2 => cg2.length = 12 ∧ kStN (upd g9 n9 (some (.cells (encM zeroM) .exact))) n9 0 cg2 _
    simp only [kAgg_a]
    refine stM hx0 (fun hx => ?_)
    have s2 : Sub g9 (upd (upd g9 n9 (some (.cells (encM zeroM) .exact))) n9 (some (.cells (encM m) .exact))) := s1.upd_fresh _ hn
    generalize upd (upd g9 n9 (some (.cells (encM zeroM) .exact))) n9 (some (.cells (encM m) .exact)) = g3 at hx s2 ⊢
    have h3 := h9.mono s2
    have hN3 := setN_get (a := { N with up := pushAll N.up (ms.take j) }) hN
    obtain ⟨x3, hx3⟩ := h3.nv hN3
    refine ldM hx ?_
    rw [← w9]
    refine push_up h3 hx3 hN3 m (fun o' g' n' W' s' w' h' => ?_)
    rw [kBin_add, wrap64_of (by omega) (by omega), show ((j : Nat) : Int) + 1 = ((j + 1 : Nat) : Int) by omega]
    refine ih (q - 1) _ _ _ (by omega) ⟨j + 1, o', W', by omega, s9.trans ((Sub.uncs h9.live s2).trans s'), w'.trans w9, ?_, t0, t6, t7, rfl⟩
    rw [setN_setN] at h'
    rw [List.take_add_one, hm, Option.toList_some, pushAll_snoc]
    exact h'
  · refine kSplit_f (decide_eq_false (by omega)) ?_
    obtain rfl : j = ms.length := by omega
    rw [List.take_length] at h9
    exact aRet_of (Sub.refl _) (hK _ _ _ _ s9 w9 h9)
end
end Go.Proofs.YtjpckcikmfihlaaGreat.Gen

namespace Go.Proofs.YtjpckcikmfihlaaGreat.Gen
open Go Go.Proofs.YtjpckcikmfihlaaGreat.Abs Go.RowKit
variable {g : G} {n : Nat}
theorem ask_len (A : Arr) (line state kind : Int) (d : Ln) : (A.ask line state kind d).1.length ≤ 1 := by
  unfold Arr.ask Arr.out
  repeat' split
  all_goals simp
theorem load_len (A : Arr) (line word : Int) : (A.load line word).1.length ≤ 1 := by
  unfold Arr.load
  repeat' split
  all_goals first | exact ask_len _ _ _ _ _ | simp
theorem reach_len (A : Arr) (line : Int) : (A.reach line).1.length ≤ 1 := by
  unfold Arr.reach
  repeat' split
  all_goals first | exact ask_len _ _ _ _ _ | simp
theorem store_len (A : Arr) (line word v : Int) : (A.store line word v).1.length ≤ 1 := by
  unfold Arr.store
  repeat' split
  all_goals first | exact reach_len _ _ | simp
theorem evict_len (A : Arr) (line : Int) : (A.evict line).1.length ≤ 1 := by
  unfold Arr.evict Arr.out
  repeat' split
  all_goals simp
theorem ansM_len (m : Ms) (s : St) (next : Int) : (ansM m s next).length ≤ 1 := by
  unfold ansM
  repeat' split
  all_goals simp
theorem hear_len (A : Arr) (m : Ms) : (A.hear m).1.length ≤ 1 := by
  unfold Arr.hear
  repeat' split
  all_goals first | exact ansM_len _ _ _ | simp
/-- all agents may be called -/
def Sys.fit (S : Sys) : Prop := ∀ (i : Nat) N, S.nodes[i]? = some N → N.A.ok ∧ N.A.wf ∧ N.A.used < 100000
def Sys.load (S : Sys) (core line word : Int) : Sys × Int × Bool :=
  match S.at core with
  | none => (S, 0, false)
  | some (i, N) => if S.line line = false then (S, 0, false) else
    (S.setN i { N with A := (N.A.load line word).2, up := pushAll N.up (N.A.load line word).1 }, N.A.loadV line word, N.A.loadHit line word)
def Sys.store (S : Sys) (core line word v : Int) : Sys × Bool :=
  match S.at core with
  | none => (S, false)
  | some (i, N) => if S.line line = false then (S, false) else
    (S.setN i { N with A := (N.A.store line word v).2, up := pushAll N.up (N.A.store line word v).1 }, N.A.storeHit line word)
def Sys.reach (S : Sys) (core line : Int) : Sys × Bool :=
  match S.at core with
  | none => (S, false)
  | some (i, N) => if S.line line = false then (S, false) else
    (S.setN i { N with A := (N.A.reach line).2, up := pushAll N.up (N.A.reach line).1 }, (N.A.reach line).2.owns line)
def Sys.evict (S : Sys) (core line : Int) : Sys × Int :=
  match S.at core with
  | none => (S, 1)
  | some (i, N) => if S.line line = false then (S, 1) else
    (S.setN i { N with A := (N.A.evict line).2.1, up := pushAll N.up (N.A.evict line).1 }, (N.A.evict line).2.2)
def Sys.flush (S : Sys) (core line kind : Int) : Sys × Int :=
  match S.at core with
  | none => (S, 1)
  | some (i, N) => if S.line line = false then (S, 1) else if kind ≠ 4 ∧ kind ≠ 5 then (S, 1) else
    (S.setN i { N with up := (pushQ N.up ⟨kind, line, false, false, zeroL⟩).1 }, (pushQ N.up ⟨kind, line, false, false, zeroL⟩).2)
section
variable {o : Col Cl} {l : Nat} {W : SysW} {S : Sys} {K : Cont}
theorem SLoad_spec (h : SysH o g l W S) (hf : S.fit) (core line word : Int)
    (hK : ∀ o' g' n' W', Sub (unc o g) (unc o' g') → SysH o' g' l W' (S.load core line word).1 → K (.tuple #[.int .u64 (S.load core line word).2.1, .bool (S.load core line word).2.2]) g' n') :
    AC mesi_System_Load_id [ptr l 0, .int .i64 core, .int .i64 line, .int .i64 word] g n K := by
  refine ACalls.fold X0_mono ?_
  rw [← mesi_System_Load_eq]
  simp only [mesi_System_Load]
  refine sat_spec h core (fun ha n1 => ?_) (fun i N ha hc hN x hx g1 n1 st s1 h1 => ?_)
  · have e : S.load core line word = (S, 0, false) := by unfold Sys.load; rw [ha]
    rw [e] at hK
    exact aRet_of (Sub.refl _) (hK _ _ _ _ (Sub.refl _) h)
  refine wNilQ (kSp_b (fun h => nomatch h) (fun _ => sline_spec h1 line (fun n2 => wNot (kSp_b (fun h2 => ?_) (fun h2 => ?_)))))
  · have e : S.load core line word = (S, 0, false) := by unfold Sys.load; rw [ha]; simp only; rw [if_pos (by simpa using h2)]
    rw [e] at hK
    exact aRet_of (Sub.refl _) (hK _ _ _ _ s1 h1)
  have e : S.load core line word = (S.setN i { N with A := (N.A.load line word).2, up := pushAll N.up (N.A.load line word).1 }, N.A.loadV line word, N.A.loadHit line word) := by
    unfold Sys.load; rw [ha]; simp only; rw [if_neg (by simpa using h2)]
  rw [e] at hK
  obtain ⟨hok, hwf, hu⟩ := hf i N hN
  simp only [kNil_p, kPtr_p]
  refine kLd_of h1.hnodes ((ns_get hx (by decide)).trans (show (encN x)[0]? = some (ptr x.lg 0) from rfl)) ?_
  refine Load_spec hok hu (h1.node i x N hx hN).ag (fun v' g2 n3 ho => ?_)
  obtain ⟨h2', s2, hsl⟩ := h1.agent hx hN ho
  simp only [kExtract_t, kGet_zero, kGet_succ]
  refine nask_spec h2' (setN_get hN) hsl (by have := load_len N.A line word; omega) (fun o' g' n' W' s3 w3 h3 => ?_)
  rw [setN_setN] at h3
  exact aRet_of (Sub.refl _) (hK _ _ _ _ ((s1.trans s2).trans s3) h3)
theorem SStore_spec (h : SysH o g l W S) (hf : S.fit) (core line word v : Int)
    (hK : ∀ o' g' n' W', Sub (unc o g) (unc o' g') → SysH o' g' l W' (S.store core line word v).1 → K (.bool (S.store core line word v).2) g' n') :
    AC mesi_System_Store_id [ptr l 0, .int .i64 core, .int .i64 line, .int .i64 word, .int .u64 v] g n K := by
  refine ACalls.fold X0_mono ?_
  rw [← mesi_System_Store_eq]
  simp only [mesi_System_Store]
  refine sat_spec h core (fun ha n1 => ?_) (fun i N ha hc hN x hx g1 n1 st s1 h1 => ?_)
  · have e : S.store core line word v = (S, false) := by unfold Sys.store; rw [ha]
    rw [e] at hK
    exact aRet_of (Sub.refl _) (hK _ _ _ _ (Sub.refl _) h)
  refine wNilQ (kSp_b (fun h => nomatch h) (fun _ => sline_spec h1 line (fun n2 => wNot (kSp_b (fun h2 => ?_) (fun h2 => ?_)))))
  · have e : S.store core line word v = (S, false) := by unfold Sys.store; rw [ha]; simp only; rw [if_pos (by simpa using h2)]
    rw [e] at hK
    exact aRet_of (Sub.refl _) (hK _ _ _ _ s1 h1)
  have e : S.store core line word v = (S.setN i { N with A := (N.A.store line word v).2, up := pushAll N.up (N.A.store line word v).1 }, N.A.storeHit line word) := by
    unfold Sys.store; rw [ha]; simp only; rw [if_neg (by simpa using h2)]
  rw [e] at hK
  obtain ⟨hok, hwf, hu⟩ := hf i N hN
  simp only [kNil_p, kPtr_p]
  refine kLd_of h1.hnodes ((ns_get hx (by decide)).trans (show (encN x)[0]? = some (ptr x.lg 0) from rfl)) ?_
  refine Store_spec hok hu (h1.node i x N hx hN).ag (fun v' g2 n3 ho => ?_)
  obtain ⟨h2', s2, hsl⟩ := h1.agent hx hN ho
  simp only [kExtract_t, kGet_zero, kGet_succ]
  refine nask_spec h2' (setN_get hN) hsl (by have := store_len N.A line word v; omega) (fun o' g' n' W' s3 w3 h3 => ?_)
  rw [setN_setN] at h3
  exact aRet_of (Sub.refl _) (hK _ _ _ _ ((s1.trans s2).trans s3) h3)
theorem SEvict_spec (h : SysH o g l W S) (hf : S.fit) (core line : Int)
    (hK : ∀ o' g' n' W', Sub (unc o g) (unc o' g') → SysH o' g' l W' (S.evict core line).1 → K (.int .i64 (S.evict core line).2) g' n') :
    AC mesi_System_Evict_id [ptr l 0, .int .i64 core, .int .i64 line] g n K := by
  refine ACalls.fold X0_mono ?_
  rw [← mesi_System_Evict_eq]
  simp only [mesi_System_Evict]
  refine sat_spec h core (fun ha n1 => ?_) (fun i N ha hc hN x hx g1 n1 st s1 h1 => ?_)
  · have e : S.evict core line = (S, 1) := by unfold Sys.evict; rw [ha]
    rw [e] at hK
    exact aRet_of (Sub.refl _) (hK _ _ _ _ (Sub.refl _) h)
  refine wNilQ (kSp_b (fun h => nomatch h) (fun _ => sline_spec h1 line (fun n2 => wNot (kSp_b (fun h2 => ?_) (fun h2 => ?_)))))
  · have e : S.evict core line = (S, 1) := by unfold Sys.evict; rw [ha]; simp only; rw [if_pos (by simpa using h2)]
    rw [e] at hK
    exact aRet_of (Sub.refl _) (hK _ _ _ _ s1 h1)
  have e : S.evict core line = (S.setN i { N with A := (N.A.evict line).2.1, up := pushAll N.up (N.A.evict line).1 }, (N.A.evict line).2.2) := by
    unfold Sys.evict; rw [ha]; simp only; rw [if_neg (by simpa using h2)]
  rw [e] at hK
  obtain ⟨hok, hwf, hu⟩ := hf i N hN
  simp only [kNil_p, kPtr_p]
  refine kLd_of h1.hnodes ((ns_get hx (by decide)).trans (show (encN x)[0]? = some (ptr x.lg 0) from rfl)) ?_
  refine Evict_spec hok hu (h1.node i x N hx hN).ag (fun v' g2 n3 ho => ?_)
  obtain ⟨h2', s2, hsl⟩ := h1.agent hx hN ho
  simp only [kExtract_t, kGet_zero, kGet_succ]
  refine nask_spec h2' (setN_get hN) hsl (by have := evict_len N.A line; omega) (fun o' g' n' W' s3 w3 h3 => ?_)
  rw [setN_setN] at h3
  exact aRet_of (Sub.refl _) (hK _ _ _ _ ((s1.trans s2).trans s3) h3)
theorem SFlush_spec (h : SysH o g l W S) (core line kind : Int)
    (hK : ∀ o' g' n' W', Sub (unc o g) (unc o' g') → SysH o' g' l W' (S.flush core line kind).1 → K (.int .i64 (S.flush core line kind).2) g' n') :
    AC mesi_System_Flush_id [ptr l 0, .int .i64 core, .int .i64 line, .int .i64 kind] g n K := by
  refine ACalls.fold X0_mono ?_
  rw [← mesi_System_Flush_eq]
  simp only [mesi_System_Flush]
  refine sat_spec h core (fun ha n1 => ?_) (fun i N ha hc hN x hx g1 n1 st s1 h1 => ?_)
  · have e : S.flush core line kind = (S, 1) := by unfold Sys.flush; rw [ha]
    rw [e] at hK
    exact aRet_of (Sub.refl _) (hK _ _ _ _ (Sub.refl _) h)
  refine wNilQ (kSp_b (fun h => nomatch h) (fun _ => sline_spec h1 line (fun n2 => wNot (kSp_b (fun h2 => ?_) (fun h2 => ?_)))))
  · have e : S.flush core line kind = (S, 1) := by unfold Sys.flush; rw [ha]; simp only; rw [if_pos (by simpa using h2)]
    rw [e] at hK
    exact aRet_of (Sub.refl _) (hK _ _ _ _ s1 h1)
  have go : ¬ (kind ≠ 4 ∧ kind ≠ 5) → kNil (ptr W.ln (i * 4)) fun v30 => kPtr v30 fun l31 o31 => kFill [(.int .i64 0), (.int .i64 0), (.bool false), (.bool false), (.int .u64 0), (.int .u64 0), (.int .u64 0), (.int .u64 0), (.int .u64 0), (.int .u64 0), (.int .u64 0), (.int .u64 0)] [(0, none, .int .i64 kind), (1, none, .int .i64 line)] fun c34 =>
      AC msg_Queue_Push_id [(ptr l31 (o31 + 1)), (.agg c34.toArray)] g1 n2 fun v35 g3 n35 => aRet K v35 g3 n35 := by
    intro hk
    have e : S.flush core line kind = (S.setN i { N with up := (pushQ N.up ⟨kind, line, false, false, zeroL⟩).1 }, (pushQ N.up ⟨kind, line, false, false, zeroL⟩).2) := by
      unfold Sys.flush; rw [ha]; simp only; rw [if_neg (by simpa using h2), if_neg hk]
    rw [e] at hK
    simp only [kNil_p, kPtr_p]
    refine kFill_m2 ?_
    refine push_up h1 hx hN _ (fun o' g' n' W' s3 w3 h3 => ?_)
    exact aRet_of (Sub.refl _) (hK _ _ _ _ (s1.trans s3) h3)
  refine wNeq (kSp_d (fun h4 => wNeq (kSp_d (fun h5 => ?_) (fun h5 => go (fun a => h5 a.2)))) (fun h4 => go (fun a => h4 a.1)))
  have e : S.flush core line kind = (S, 1) := by unfold Sys.flush; rw [ha]; simp only; rw [if_neg (by simpa using h2), if_pos ⟨h4, h5⟩]
  rw [e] at hK
  exact aRet_of (Sub.refl _) (hK _ _ _ _ s1 h1)
theorem SReach_spec (h : SysH o g l W S) (hf : S.fit) (hf2 : ∀ (i : Nat) N (line : Int), S.nodes[i]? = some N → (N.A.reach line).2.ok) (core line : Int)
    (hK : ∀ o' g' n' W', Sub (unc o g) (unc o' g') → SysH o' g' l W' (S.reach core line).1 → K (.bool (S.reach core line).2) g' n') :
    AC mesi_System_Reach_id [ptr l 0, .int .i64 core, .int .i64 line] g n K := by
  refine ACalls.fold X0_mono ?_
  rw [← mesi_System_Reach_eq]
  simp only [mesi_System_Reach]
  refine sat_spec h core (fun ha n1 => ?_) (fun i N ha hc hN x hx g1 n1 st s1 h1 => ?_)
  · have e : S.reach core line = (S, false) := by unfold Sys.reach; rw [ha]
    rw [e] at hK
    exact aRet_of (Sub.refl _) (hK _ _ _ _ (Sub.refl _) h)
  refine wNilQ (kSp_b (fun h => nomatch h) (fun _ => sline_spec h1 line (fun n2 => wNot (kSp_b (fun h2 => ?_) (fun h2 => ?_)))))
  · have e : S.reach core line = (S, false) := by unfold Sys.reach; rw [ha]; simp only; rw [if_pos (by simpa using h2)]
    rw [e] at hK
    exact aRet_of (Sub.refl _) (hK _ _ _ _ s1 h1)
  have e : S.reach core line = (S.setN i { N with A := (N.A.reach line).2, up := pushAll N.up (N.A.reach line).1 }, (N.A.reach line).2.owns line) := by
    unfold Sys.reach; rw [ha]; simp only; rw [if_neg (by simpa using h2)]
  rw [e] at hK
  obtain ⟨hok, hwf, hu⟩ := hf i N hN
  simp only [kNil_p, kPtr_p]
  refine kLd_of h1.hnodes ((ns_get hx (by decide)).trans (show (encN x)[0]? = some (ptr x.lg 0) from rfl)) ?_
  refine Reach_spec hok hu (h1.node i x N hx hN).ag (fun v' g2 n3 ho => ?_)
  obtain ⟨h2', s2, hsl⟩ := h1.agent hx hN ho
  refine nask_spec h2' (setN_get hN) hsl (by have := reach_len N.A line; omega) (fun o' g' n' W' s3 w3 h3 => ?_)
  rw [setN_setN] at h3
  obtain ⟨x', hx'⟩ := h3.nv (setN_get hN)
  have w3' : W.ln = W'.ln := w3.symm
  rw [w3']
  refine kLd_of h3.hnodes ((ns_get hx' (by decide)).trans (show (encN x')[0]? = some (ptr x'.lg 0) from rfl)) ?_
  refine Owns_spec (hf2 i N line hN) (h3.node i x' _ hx' (setN_get hN)).ag (fun n' => ?_)
  exact aRet_of (Sub.refl _) (hK _ _ _ _ ((s1.trans s2).trans s3) h3)
end
end Go.Proofs.YtjpckcikmfihlaaGreat.Gen

namespace Go.Proofs.YtjpckcikmfihlaaGreat.Gen
open Go Go.Proofs.YtjpckcikmfihlaaGreat.Abs Go.RowKit
variable {g : G} {n : Nat}
theorem flat_spl {α : Type} {enc : α → List Value} {z : Nat} (hz : ∀ x, (enc x).length = z) {x x' : α} {k : Nat} {vs : List Value} (hk : k + vs.length ≤ z) (he : enc x' = splice (enc x) k vs) : ∀ {xs : List α} {i : Nat}, xs[i]? = some x → splice (xs.map enc).flatten (i * z + k) vs = ((xs.set i x').map enc).flatten
  | [], i, h => by cases i <;> cases h
  | y :: ys, 0, h => by
    cases h
    simp only [List.set_cons_zero, List.map_cons, List.flatten_cons, Nat.zero_mul, Nat.zero_add]
    rw [he]
    unfold splice
    rw [List.take_append_of_le_length (by rw [hz]; omega), List.drop_append_of_le_length (by rw [hz]; omega)]
    simp
  | y :: ys, i + 1, h => by
    simp only [List.set_cons_succ, List.map_cons, List.flatten_cons]
    rw [← flat_spl hz hk he (xs := ys) (i := i) h]
    unfold splice
    have e1 : (i + 1) * z + k = (enc y).length + (i * z + k) := by rw [hz, Nat.add_mul]; omega
    rw [e1, List.take_length_add_append, Nat.add_assoc, List.drop_length_add_append]
    simp
theorem set_splice (cs : List Value) (i : Nat) (v : Value) (h : i < cs.length) : cs.set i v = splice cs i [v] := by
  unfold splice
  rw [List.set_eq_take_append_cons_drop, if_pos h]
  simp
theorem flat_setk {α : Type} {enc : α → List Value} {z : Nat} (hz : ∀ x, (enc x).length = z) {x x' : α} {k : Nat} {v : Value} (hk : k < z) (he : enc x' = (enc x).set k v) {xs : List α} {i : Nat} (h : xs[i]? = some x) : (xs.map enc).flatten.set (i * z + k) v = ((xs.set i x').map enc).flatten := by
  have hi := lt_of_get h
  have hl : i * z + k < (xs.map enc).flatten.length := by
    rw [flat_len enc z hz]
    have := Nat.mul_le_mul_right z (show i + 1 ≤ xs.length from hi)
    rw [Nat.add_mul, Nat.one_mul] at this; omega
  rw [set_splice _ _ _ hl]
  refine flat_spl hz (by simp; omega) ?_ h
  rw [he, set_splice _ _ _ (by rw [hz]; exact hk)]
theorem snd_m (s : Snd) : ((encSnd s).drop (0 + 1)).take 12 = encM s.m := by
  show (encM s.m).take 12 = encM s.m
  exact List.take_of_length_le (by rw [encM_len]; exact Nat.le_refl _)
theorem ent_get {xs : List Ent} {i k : Nat} {e : Ent} (hx : xs[i]? = some e) (hk : k < 15) : (xs.map encEnt).flatten[i * 15 + k]? = (encEnt e)[k]? := by
  have h := flat_at encEnt 15 encEnt_len xs i e hx
  rw [← h, List.getElem?_take, if_pos hk, List.getElem?_drop]
def Sys.setE (S : Sys) (i : Nat) (e : Ent) : Sys := { S with dir := S.dir.set i e }
section
variable {o : Col Cl} {l : Nat} {W : SysW} {S : Sys} {K : Cont}
/-- the memory, and its queue, change -/
theorem SysH.memo {o' : Col Cl} {g' : G} {v' : Value} {es' : List En} {D' : Dev} (h : SysH o g l W S) (hk : Kept isMemo o o' g g') (hL : Live o' g') (hq : QuH o' g' W.lq W.le S.c.queue v' es') (hd : DevH o' g' W.le W.lm D') :
    SysH o' g' l { W with v := v' } { S with q := es', D := D' } := by
  have nt : ∀ c, c ≠ .dev → c ≠ .mem → c ≠ .que → c ≠ .ent → ¬ isMemo c := by
    rintro c h1 h2 h3 h4 (e | e | e | e)
    · exact h1 e
    · exact h2 e
    · exact h3 e
    · exact h4 e
  exact ⟨hL, (hk.col _ _ h.osys (nt _ (by simp) (by simp) (by simp) (by simp))).1, (hk.col _ _ h.osys (nt _ (by simp) (by simp) (by simp) (by simp))).2.trans h.hsys, (hk.col _ _ h.onodes (nt _ (by simp) (by simp) (by simp) (by simp))).1, (hk.col _ _ h.onodes (nt _ (by simp) (by simp) (by simp) (by simp))).2.trans h.hnodes, h.len,
    fun i x N a b => (h.node i x N a b).kept hk (nt _ (by simp) (by simp) (by simp) (by simp)) (nt _ (by simp) (by simp) (by simp) (by simp)) (nt _ (by simp) (by simp) (by simp) (by simp)) (nt _ (by simp) (by simp) (by simp) (by simp)),
    (hk.col _ _ h.odir (nt _ (by simp) (by simp) (by simp) (by simp))).1, (hk.col _ _ h.odir (nt _ (by simp) (by simp) (by simp) (by simp))).2.trans h.hdir, hq, hd⟩
theorem isDev_memo : ∀ c, isDev c → isMemo c := fun c h => h.elim .inl (fun h => .inr (.inl h))
/-- an entry changes -/
theorem SysH.ent (h : SysH o g l W S) (i : Nat) (e' : Ent) : SysH o (upd g W.ld (some (.cells ((S.dir.set i e').map encEnt).flatten .exact))) l W (S.setE i e') ∧ Sub (unc o g) (unc o (upd g W.ld (some (.cells ((S.dir.set i e').map encEnt).flatten .exact)))) := by
  have hk : Kept (· = Cl.dir) o o g (upd g W.ld (some (.cells ((S.dir.set i e').map encEnt).flatten .exact))) := Kept.upd (t := (· = Cl.dir)) h.odir rfl _
  have e0 : sysC W (S.setE i e') = sysC W S := by unfold sysC Sys.setE; simp
  refine ⟨⟨h.live.upd _ _, h.osys, by rw [e0]; exact (hk.col _ _ h.osys (by simp)).2.trans h.hsys, h.onodes, (hk.col _ _ h.onodes (by simp)).2.trans h.hnodes, h.len, fun j x N a b => (h.node j x N a b).kept hk (by simp) (by simp) (by simp) (by simp), h.odir, upd_same _ _ _, h.que.kept hk (by simp) (by simp), h.dev.kept hk (by simp) (by simp)⟩, hk.unc⟩
/-- a whole entry is stored -/
theorem SysH.stE (h : SysH o g l W S) {i : Nat} {e : Ent} (hi : S.dir[i]? = some e) (e' : Ent) {K : G → Prop} (k : ∀ g', Sub (unc o g) (unc o g') → SysH o g' l W (S.setE i e') → K g') : (encEnt e').length = 15 ∧ kStN g W.ld (i * 15) (encEnt e') K := by
  refine ⟨encEnt_len _, ?_⟩
  have := h.ent i e'
  exact Blk1.stN encEnt_len (fun x => encEnt_cell x) h.hdir rfl (lt_of_get hi) (fun _ => k _ this.2 this.1)
theorem SysH.ldE (h : SysH o g l W S) {i : Nat} {e : Ent} (hi : S.dir[i]? = some e) {K : List Value → Prop} (k : K (encEnt e)) : kLdN g W.ld (i * 15) 15 K := Blk1.ldN encEnt_len h.hdir hi k
theorem SysH.ldEk (h : SysH o g l W S) {i k : Nat} {e : Ent} {v : Value} (hi : S.dir[i]? = some e) (hk : k < 15) (hv : (encEnt e)[k]? = some v) {K : Value → Prop} (kk : K v) : kLd g W.ld (i * 15 + k) K := kLd_of h.hdir ((ent_get hi hk).trans hv) kk
theorem SysH.idxE (h : SysH o g l W S) {i : Nat} {e : Ent} (hi : S.dir[i]? = some e) {K : Value → Prop} (k : K (ptr W.ld (i * 15))) : kIndexAddr (.slice (some ⟨W.ld, 0, none⟩) S.dir.length S.dir.length) (.int .i64 (i : Nat)) 15 K := by
  have := lt_of_get hi
  refine kIndexAddr_s (by omega) (by omega) ?_
  simpa using k
theorem SysH.stEk (h : SysH o g l W S) {i k : Nat} {e e' : Ent} {v : Value} (hi : S.dir[i]? = some e) (hk : k < 15) (hv : isCell v = true) (he : encEnt e' = (encEnt e).set k v) {K : G → Prop} (kk : ∀ g', Sub (unc o g) (unc o g') → SysH o g' l W (S.setE i e') → K g') : kSt g W.ld (i * 15 + k) v K := by
  refine kSt_of h.hdir rfl ?_ hv ?_
  · rw [flat_len encEnt 15 encEnt_len]
    have := lt_of_get hi; omega
  · rw [flat_setk encEnt_len hk he hi]
    exact kk _ (h.ent i e').2 (h.ent i e').1
theorem SysH.stEs (h : SysH o g l W S) {i k : Nat} {e e' : Ent} {vs : List Value} (hi : S.dir[i]? = some e) (hk : k + vs.length ≤ 15) (hv : ∀ v ∈ vs, isCell v = true) (he : encEnt e' = splice (encEnt e) k vs) {K : G → Prop} (kk : ∀ g', Sub (unc o g) (unc o g') → SysH o g' l W (S.setE i e') → K g') : kStN g W.ld (i * 15 + k) vs K := by
  refine kStN_of h.hdir rfl ?_ hv ?_
  · rw [flat_len encEnt 15 encEnt_len]
    have := lt_of_get hi; omega
  · rw [flat_spl encEnt_len hk he hi]
    exact kk _ (h.ent i e').2 (h.ent i e').1
theorem setE_get {S : Sys} {i : Nat} {a e : Ent} (h : S.dir[i]? = some e) : (S.setE i a).dir[i]? = some a := by
  simp only [Sys.setE]; exact List.getElem?_set_self (lt_of_get h)
theorem setE_setE (S : Sys) (i : Nat) (a b : Ent) : (S.setE i a).setE i b = S.setE i b := by simp [Sys.setE]
/-- a plain block: it has no colour -/
theorem plain_new (h : SysH o g l W S) (hn : g n = none) (b : Blk) : unc o (upd g n (some b)) n = some b := by
  rw [unc_none (h.live.fresh hn)]; exact upd_same _ _ _
def Sys.send1 (S : Sys) (line : Int) (x : Snd) : Sys :=
  match S.at x.to with
  | none => S
  | some (i, N) => S.setN i { N with dn := (pushQ N.dn { x.m with line := line }).1 }
def Sys.sends (S : Sys) (line : Int) (l : List Snd) : Sys := l.foldl (fun S x => S.send1 line x) S
theorem sends_snoc (S : Sys) (line : Int) (l : List Snd) (x : Snd) : S.sends line (l ++ [x]) = (S.sends line l).send1 line x := by simp [Sys.sends]
theorem sends_spec (h : SysH o g l W S) {v : Value} {xs : List Snd} (line : Int) (hms : Sl encSnd 13 (unc o g) v xs) (hlen : xs.length < 1000000)
    (hK : ∀ o' g' n' W', Sub (unc o g) (unc o' g') → SysH o' g' l W' (S.sends line xs) → K (.tuple #[]) g' n') : AC mesi_System_sends_id [ptr l 0, v, .int .i64 line] g n K := by
  refine ACalls.fold X0_mono ?_
  rw [← mesi_System_sends_eq]
  simp only [mesi_System_sends]
  refine hms.len ?_
  refine lfp_ind (m := xs.length) (Inv := fun q t g9 n9 => ∃ (j : Nat) (o9 : Col Cl) (W9 : SysW), q + j = xs.length ∧ Sub (unc o g) (unc o9 g9) ∧ SysH o9 g9 l W9 (S.sends line (xs.take j)) ∧ t 0 = ptr l 0 ∧ t 2 = .int .i64 line ∧ t 9 = v ∧ t 10 = .int .i64 xs.length ∧ t 11 = .int .i64 (j : Nat)) ?_
    ⟨0, o, W, by omega, Sub.refl _, h, rfl, rfl, rfl, rfl, rfl⟩
  rintro I q t g9 n9 ih ⟨j, o9, W9, hj, s9, h9, t0, t2, t9, t10, t11⟩
  simp only [mesi_System_sends_l1, t0, t2, t9, t10, t11, kBin_lss]
  by_cases hj' : j < xs.length
  · refine kSplit_t (decide_eq_true (by omega)) ?_
    obtain ⟨x, hm⟩ : ∃ m, xs[j]? = some m := ⟨xs[j], List.getElem?_eq_getElem hj'⟩
    refine ((hms.mono s9).mono (unc_sub _ _)).idx encSnd_len hm (fun li oi ha => ?_)
    simp only [kPtr_p]
    refine ha.ldN (by rw [encSnd_len]) ?_
    intro hn
    have s1 := (Sub.refl g9).new hn (some (.cells (encSnd ⟨0, zeroM⟩) .exact))
    have hx0 : upd g9 n9 (some (.cells (encSnd ⟨0, zeroM⟩) .exact)) n9 = some (.cells (encSnd ⟨0, zeroM⟩) .exact) := upd_same _ _ _
    change kAgg (.agg (encSnd x).toArray) fun cg2 => cg2.length = 13 ∧ kStN (upd g9 n9 (some (.cells (encSnd ⟨0, zeroM⟩) .exact))) n9 0 cg2 _
    simp only [kAgg_a]
    refine ⟨encSnd_len _, kStN_of hx0 rfl (by rw [encSnd_len, encSnd_len]; decide) (encSnd_cell _) ?_⟩
    rw [splice_all (by rw [encSnd_len, encSnd_len])]
    refine kSt_of (upd_same _ _ _) rfl (by rw [encSnd_len]; decide) rfl ?_
    have e2 : (encSnd x).set (0 + 1 + 1) (.int .i64 line) = encSnd ⟨x.to, { x.m with line := line }⟩ := rfl
    rw [e2]
    have s2 : Sub g9 (upd (upd (upd g9 n9 (some (.cells (encSnd ⟨0, zeroM⟩) .exact))) n9 (some (.cells (encSnd x) .exact))) n9 (some (.cells (encSnd ⟨x.to, { x.m with line := line }⟩) .exact))) := (s1.upd_fresh _ hn).upd_fresh _ hn
    have hx : upd (upd (upd g9 n9 (some (.cells (encSnd ⟨0, zeroM⟩) .exact))) n9 (some (.cells (encSnd x) .exact))) n9 (some (.cells (encSnd ⟨x.to, { x.m with line := line }⟩) .exact)) n9 = some (.cells (encSnd ⟨x.to, { x.m with line := line }⟩) .exact) := upd_same _ _ _
    generalize upd (upd (upd g9 n9 (some (.cells (encSnd ⟨0, zeroM⟩) .exact))) n9 (some (.cells (encSnd x) .exact))) n9 (some (.cells (encSnd ⟨x.to, { x.m with line := line }⟩) .exact)) = g3 at hx s2 ⊢
    have hxu : unc o9 g3 n9 = some (.cells (encSnd ⟨x.to, { x.m with line := line }⟩) .exact) := by rw [unc_none (h9.live.fresh hn)]; exact hx
    have h3 := h9.mono s2
    have s3 := s9.trans (Sub.uncs h9.live s2)
    refine kLd_of hx (show (encSnd ⟨x.to, { x.m with line := line }⟩)[0 + 0]? = some (.int .i64 x.to) from rfl) ?_
    have nx : S.sends line (xs.take (j + 1)) = (S.sends line (xs.take j)).send1 line x := by rw [List.take_add_one, hm, Option.toList_some, sends_snoc]
    refine sat_spec h3 x.to (fun ha n4 => ?_) (fun i N ha hc hN y hy g4 n4 st s4 h4 => ?_)
    · have e : (S.sends line (xs.take j)).send1 line x = S.sends line (xs.take j) := by unfold Sys.send1; rw [ha]
      rw [kBin_pnil_neq]
      refine kSp_b (fun h => nomatch h) (fun _ => ?_)
      rw [kBin_add, wrap64_of (by omega) (by omega), show ((j : Nat) : Int) + 1 = ((j + 1 : Nat) : Int) by omega]
      refine ih (q - 1) _ _ _ (by omega) ⟨j + 1, o9, W9, by omega, s3, ?_, t0, t2, t9, t10, rfl⟩
      rw [nx, e]; exact h3
    · have e : (S.sends line (xs.take j)).send1 line x = (S.sends line (xs.take j)).setN i { N with dn := (pushQ N.dn { x.m with line := line }).1 } := by unfold Sys.send1; rw [ha]
      refine wNilP (kSp_b (fun _ => ?_) (fun h => nomatch h))
      simp only [kNil_p, kPtr_p]
      refine kLdN_of ((unc_sub _ _).live (s4.live hxu)) (by rw [encSnd_len]; decide) ?_
      rw [snd_m]
      refine push_dn h4 hy hN _ (fun o' g' n' W' s' w' h' => ?_)
      rw [kBin_add, wrap64_of (by omega) (by omega), show ((j : Nat) : Int) + 1 = ((j + 1 : Nat) : Int) by omega]
      refine ih (q - 1) _ _ _ (by omega) ⟨j + 1, o', W', by omega, (s3.trans s4).trans s', ?_, t0, t2, t9, t10, rfl⟩
      rw [nx, e]; exact h'
  · refine kSplit_f (decide_eq_false (by omega)) ?_
    obtain rfl : j = xs.length := by omega
    rw [List.take_length] at h9
    exact aRet_of (Sub.refl _) (hK _ _ _ _ s9 h9)
end
end Go.Proofs.YtjpckcikmfihlaaGreat.Gen

namespace Go.Proofs.YtjpckcikmfihlaaGreat.Gen
open Go Go.Proofs.YtjpckcikmfihlaaGreat.Abs Go.RowKit
variable {g : G} {n : Nat}
/-- a system's shape -/
structure Sys.shp (S : Sys) : Prop where
  lines : S.dir.length = S.D.mem.length
  h64 : S.D.mem.length ≤ 64
  vol : 1 ≤ S.D.vol ∧ S.D.vol < S.D.mem.length
  q : S.q.length < 100
def Sys.here (S : Sys) (i : Nat) (e : Ent) : Sys := if e.here = true then S else S.setE i { e with data := readQ S.q S.D (i : Nat), here := true }
def Sys.write (S : Sys) (i : Nat) (e : Ent) : Sys × Int := if e.dirty = false then (S, 0) else ({ S with q := (pushW S.q S.D S.c.queue (i : Nat) e.data).1 }, (pushW S.q S.D S.c.queue (i : Nat) e.data).2)
theorem write_dir (S : Sys) (i : Nat) (e : Ent) : (S.write i e).1.dir = S.dir := by unfold Sys.write; split <;> rfl
def Sys.ent (S : Sys) (line : Int) : Option (Nat × Ent) := if 0 ≤ line then (S.dir[line.toNat]?).map (fun e => (line.toNat, e)) else none
theorem Sys.ent_some {S : Sys} {line : Int} {i : Nat} {e : Ent} (h : S.ent line = some (i, e)) : line = (i : Nat) ∧ S.dir[i]? = some e := by
  unfold Sys.ent at h
  split at h
  · rename_i h0
    cases h1 : S.dir[line.toNat]? with
    | none => rw [h1] at h; cases h
    | some M => rw [h1] at h; cases h; exact ⟨by omega, h1⟩
  · cases h
theorem Sys.ent_of {S : Sys} {i : Nat} {e : Ent} (h : S.dir[i]? = some e) : S.ent (i : Nat) = some (i, e) := by
  unfold Sys.ent; rw [if_pos (by omega), Int.toNat_natCast, h]; rfl
theorem Sys.line_f {S : Sys} {line : Int} (h : S.line line = false) : S.ent line = none := by
  unfold Sys.line at h
  simp only [decide_eq_false_iff_not] at h
  unfold Sys.ent
  split
  · rw [List.getElem?_eq_none (by omega)]; rfl
  · rfl
theorem Sys.line_t {S : Sys} {line : Int} (h : S.line line = true) : ∃ i e, line = (i : Nat) ∧ S.dir[i]? = some e ∧ S.ent line = some (i, e) := by
  unfold Sys.line at h
  simp only [decide_eq_true_eq] at h
  obtain ⟨i, rfl⟩ : ∃ i : Nat, line = i := ⟨line.toNat, by omega⟩
  have hi : i < S.dir.length := by omega
  exact ⟨i, S.dir[i], rfl, List.getElem?_eq_getElem hi, Sys.ent_of (List.getElem?_eq_getElem hi)⟩
def Sys.push (S : Sys) (line : Int) : Sys × Int :=
  match S.ent line with
  | none => (S, 1)
  | some (i, e) => if readyE e = false then (S, 16) else if (S.write i e).2 ≠ 0 then S.write i e else if (pushedE e).2.2 ≠ 0 then ((S.write i e).1, (pushedE e).2.2) else
    (((S.write i e).1.setE i (pushedE e).1).sends line (pushedE e).2.1, 0)
def Sys.drop (S : Sys) (line : Int) : Sys × Int :=
  match S.ent line with
  | none => (S, 1)
  | some (i, e) => if e.here = false ∨ 0 ≤ e.owner ∨ nz e.share = true ∨ e.busy ≠ 0 then (S, 16) else if (S.write i e).2 ≠ 0 then S.write i e else ((S.write i e).1.setE i emptyEnt, 0)
def Sys.drain (S : Sys) (line : Int) : Sys × Int :=
  if S.line line = false then (S, 1) else ({ S with q := (drainW S.q S.D line).1, D := (drainW S.q S.D line).2.1 }, (drainW S.q S.D line).2.2)
section
variable {o : Col Cl} {l : Nat} {W : SysW} {S : Sys} {K : Cont}
theorem here_spec (h : SysH o g l W S) (hs : S.shp) {i : Nat} {e : Ent} (hi : S.dir[i]? = some e)
    (hK : ∀ g' n' W', Sub (unc o g) (unc o g') → W'.ld = W.ld → W'.ln = W.ln → SysH o g' l W' (S.here i e) → K (.tuple #[]) g' n') : AC mesi_System_here_id [ptr l 0, .int .i64 (i : Nat)] g n K := by
  refine ACalls.fold X0_mono ?_
  rw [← mesi_System_here_eq]
  simp only [mesi_System_here, kNil_p, kPtr_p]
  refine h.lds (sysC_get (i := 1)) (h.idxE hi ?_)
  simp only [kNil_p, kPtr_p]
  refine h.ldEk hi (by decide) (ent_0 e) (wNot (kSp_b (fun h1 => ?_) (fun h1 => ?_)))
  · have e1 : S.here i e = S.setE i { e with data := readQ S.q S.D (i : Nat), here := true } := by unfold Sys.here; rw [if_neg (by simpa using h1)]
    rw [e1] at hK
    refine h.lds (sysC_get (i := 2)) ?_
    have hlt := lt_of_get hi
    refine WRead_spec h.live h.que h.dev (by omega) (by have := hs.lines; omega) hs.h64 (fun g2 n2 k2 L2 d2 => ?_)
    have h2 : SysH o g2 l W S := h.memo (k2.mono isDev_memo) L2 (h.que.kept k2 (by simp [isDev]) (by simp [isDev])) d2
    simp only [kExtract_t, kGet_zero, kGet_succ, kAgg_a]
    refine ⟨encL_len _, ?_⟩
    refine h2.stEs hi (by rw [encL_len]; decide) (encL_cell _) (ent_sd e _).symm (fun g3 s3 h3 => ?_)
    refine h3.stEk (setE_get hi) (by decide) rfl (ent_s0 _ _).symm (fun g4 s4 h4 => ?_)
    rw [setE_setE] at h4
    exact aRet_of (Sub.refl _) (hK _ _ _ ((k2.unc.trans s3).trans s4) rfl rfl h4)
  · have e1 : S.here i e = S := by unfold Sys.here; rw [if_pos (by simpa using h1)]
    rw [e1] at hK
    exact aRet_of (Sub.refl _) (hK _ _ _ (Sub.refl _) rfl rfl h)
theorem write_spec (h : SysH o g l W S) (hs : S.shp) {i : Nat} {e : Ent} (hi : S.dir[i]? = some e)
    (hK : ∀ o' g' n' W', Sub (unc o g) (unc o' g') → W'.ld = W.ld → SysH o' g' l W' (S.write i e).1 → K (.int .i64 (S.write i e).2) g' n') : AC mesi_System_write_id [ptr l 0, .int .i64 (i : Nat)] g n K := by
  refine ACalls.fold X0_mono ?_
  rw [← mesi_System_write_eq]
  simp only [mesi_System_write, kNil_p, kPtr_p]
  refine h.lds (sysC_get (i := 1)) (h.idxE hi ?_)
  simp only [kPtr_p]
  refine h.ldEk hi (by decide) (ent_1 e) (wNot (kSp_b (fun h1 => ?_) (fun h1 => ?_)))
  · have e1 : S.write i e = (S, 0) := by unfold Sys.write; rw [if_pos (by simpa using h1)]
    rw [e1] at hK
    exact aRet_of (Sub.refl _) (hK _ _ _ _ (Sub.refl _) rfl h)
  · have e1 : S.write i e = ({ S with q := (pushW S.q S.D S.c.queue (i : Nat) e.data).1 }, (pushW S.q S.D S.c.queue (i : Nat) e.data).2) := by unfold Sys.write; rw [if_neg (by simpa using h1)]
    rw [e1] at hK
    refine h.lds (sysC_get (i := 2)) (h.lds (sysC_get (i := 1)) (h.idxE hi ?_))
    simp only [kPtr_p]
    have hd : ((S.dir.map encEnt).flatten.drop (i * 15 + 2)).take 8 = encL e.data := by
      have h1 := flat_at encEnt 15 encEnt_len S.dir i e hi
      have h2 := congrArg (fun t => (t.drop 2).take 8) h1
      rw [List.drop_take, List.drop_drop, List.take_take] at h2
      rw [show min 8 (15 - 2) = 8 from rfl] at h2
      exact h2.trans (ent_data e)
    refine kLdN_of h.hdir ?_ ?_
    · rw [flat_len encEnt 15 encEnt_len]; have := lt_of_get hi; omega
    rw [hd]
    refine WPush_spec h.live h.que h.dev (i : Nat) e.data (by have := hs.q; omega) (fun v' o' g' n' k' L' q' d' => ?_)
    have h2 := h.memo k' L' q' d'
    exact aRet_of (Sub.refl _) (hK _ _ _ { W with v := v' } k'.unc rfl h2)
theorem SDrain_spec (h : SysH o g l W S) (hs : S.shp) (line : Int)
    (hK : ∀ o' g' n' W', Sub (unc o g) (unc o' g') → SysH o' g' l W' (S.drain line).1 → K (.int .i64 (S.drain line).2) g' n') : AC mesi_System_Drain_id [ptr l 0, .int .i64 line] g n K := by
  refine ACalls.fold X0_mono ?_
  rw [← mesi_System_Drain_eq]
  simp only [mesi_System_Drain, kNil_p, kPtr_p]
  refine sline_spec h line (fun n1 => wNot (kSp_b (fun h1 => ?_) (fun h1 => ?_)))
  · have e1 : S.drain line = (S, 1) := by unfold Sys.drain; rw [if_pos (by simpa using h1)]
    rw [e1] at hK
    exact aRet_of (Sub.refl _) (hK _ _ _ _ (Sub.refl _) h)
  · have e1 : S.drain line = ({ S with q := (drainW S.q S.D line).1, D := (drainW S.q S.D line).2.1 }, (drainW S.q S.D line).2.2) := by unfold Sys.drain; rw [if_neg (by simpa using h1)]
    rw [e1] at hK
    refine h.lds (sysC_get (i := 2)) ?_
    refine WDrain_spec h.live h.que h.dev line (by have := hs.q; omega) (fun v' g' n' k' L' q' d' => ?_)
    exact aRet_of (Sub.refl _) (hK _ _ _ _ k'.unc (h.memo k' L' q' d'))
theorem SDrop_spec (h : SysH o g l W S) (hs : S.shp) (line : Int)
    (hK : ∀ o' g' n' W', Sub (unc o g) (unc o' g') → SysH o' g' l W' (S.drop line).1 → K (.int .i64 (S.drop line).2) g' n') : AC mesi_System_Drop_id [ptr l 0, .int .i64 line] g n K := by
  refine ACalls.fold X0_mono ?_
  rw [← mesi_System_Drop_eq]
  simp only [mesi_System_Drop, kNil_p, kPtr_p]
  refine sline_spec h line (fun n1 => wNot (kSp_b (fun h1 => ?_) (fun h1 => ?_)))
  · have e1 : S.drop line = (S, 1) := by unfold Sys.drop; rw [Sys.line_f (by simpa using h1)]
    rw [e1] at hK
    exact aRet_of (Sub.refl _) (hK _ _ _ _ (Sub.refl _) h)
  obtain ⟨i, e, rfl, hi, he⟩ := Sys.line_t (by simpa using h1)
  refine h.lds (sysC_get (i := 1)) (h.idxE hi ?_)
  simp only [kPtr_p]
  refine h.ldE hi ?_
  intro hn
  have s1 := (Sub.refl g).new hn (some (.cells (encEnt zeroEnt) .exact))
  have x1 : upd g n1 (some (.cells (encEnt zeroEnt) .exact)) n1 = some (.cells (encEnt zeroEnt) .exact) := upd_same _ _ _
  simp only [zEnt, kAgg_a]
  refine stEn x1 ?_
  have s2 : Sub g (upd (upd g n1 (some (.cells (encEnt zeroEnt) .exact))) n1 (some (.cells (encEnt e) .exact))) := s1.upd_fresh _ hn
  have x2 : upd (upd g n1 (some (.cells (encEnt zeroEnt) .exact))) n1 (some (.cells (encEnt e) .exact)) n1 = some (.cells (encEnt e) .exact) := upd_same _ _ _
  generalize upd (upd g n1 (some (.cells (encEnt zeroEnt) .exact))) n1 (some (.cells (encEnt e) .exact)) = g2 at s2 x2 ⊢
  have h2 := h.mono s2
  have u2 := Sub.uncs h.live s2
  have bad : S.drop (i : Nat) = (S, 16) → ∀ n', aRet K (.int .i64 16) g2 n' := fun e1 n' => by
    rw [e1] at hK
    exact aRet_of (Sub.refl _) (hK _ _ _ _ u2 h2)
  refine kLd_of x2 (ent_0 e) (wNot (kSp_b (fun a => bad ?_ _) (fun a => ?_)))
  · unfold Sys.drop; rw [he]; simp only; rw [if_pos (.inl (by simpa using a))]
  refine kLd_of x2 (ent_10 e) (wGeq (kSp_d (fun b => bad ?_ _) (fun b => ?_)))
  · unfold Sys.drop; rw [he]; simp only; rw [if_pos (.inr (.inl b))]
  refine kLd_of x2 (ent_11 e) (wNz (kSp_b (fun c => bad ?_ _) (fun c => ?_)))
  · unfold Sys.drop; rw [he]; simp only; rw [if_pos (.inr (.inr (.inl c)))]
  refine kLd_of x2 (ent_12 e) (wNeq (kSp_d (fun d => bad ?_ _) (fun d => ?_)))
  · unfold Sys.drop; rw [he]; simp only; rw [if_pos (.inr (.inr (.inr d)))]
  have no1 : ¬ (e.here = false ∨ 0 ≤ e.owner ∨ nz e.share = true ∨ e.busy ≠ 0) := by
    rintro (a' | a' | a' | a')
    · rw [a'] at a; exact absurd a (by decide)
    · exact b a'
    · rw [c] at a'; exact absurd a' (by decide)
    · exact d a'
  refine write_spec h2 hs hi (fun o3 g3 n3 W3 u3 w3 h3 => wNeq (kSp_d (fun f => ?_) (fun f => ?_)))
  · have e1 : S.drop (i : Nat) = S.write i e := by unfold Sys.drop; rw [he]; simp only; rw [if_neg no1, if_pos f]
    rw [e1] at hK
    exact aRet_of (Sub.refl _) (hK _ _ _ _ (u2.trans u3) h3)
  have e1 : S.drop (i : Nat) = ((S.write i e).1.setE i emptyEnt, 0) := by unfold Sys.drop; rw [he]; simp only; rw [if_neg no1, if_neg f]
  rw [e1] at hK
  refine h3.lds (sysC_get (i := 1)) (Empty_spec (fun n4 => ⟨rfl, ?_⟩))
  have hi3 : (S.write i e).1.dir[i]? = some e := by rw [write_dir]; exact hi
  refine h3.idxE hi3 ?_
  simp only [kPtr_p, kAgg_a]
  refine h3.stE hi3 emptyEnt (fun g5 u5 h5 => ?_)
  exact aRet_of (Sub.refl _) (hK _ _ _ _ ((u2.trans u3).trans u5) h5)
end
end Go.Proofs.YtjpckcikmfihlaaGreat.Gen

namespace Go.Proofs.YtjpckcikmfihlaaGreat.Gen
open Go Go.Proofs.YtjpckcikmfihlaaGreat.Abs Go.RowKit
variable {g : G} {n : Nat}
theorem goes_out (m : Mov) : m.goes.out.length ≤ m.out.length + 1 := by
  unfold Mov.goes Mov.read Mov.own Mov.tell Mov.over
  repeat' split
  all_goals simp
theorem answerE_len (e : Ent) (by_ : Int) (x : Ms) : (answerE e by_ x).2.1.length ≤ 1 := by
  unfold answerE
  repeat' split
  all_goals first | exact goes_out _ | simp
theorem pushedE_len (e : Ent) : (pushedE e).2.1.length ≤ 1 := by
  unfold pushedE Mov.tell Mov.over
  split <;> simp
theorem wait_out (m : Mov) (b by_ : Int) (c : Mask) (kind : Int) : (m.wait b by_ c kind).out.length ≤ m.out.length + 8 := by
  unfold Mov.wait
  rw [Mov.tells_out]
  have := coresM_len c
  show m.out.length + _ ≤ _
  omega
theorem asked_out (m : Mov) (by_ : Int) (x : Ms) : (m.asked by_ x).out.length ≤ m.out.length + 8 := by
  unfold Mov.asked
  repeat' split
  · unfold Mov.getS
    repeat' split
    · exact wait_out _ _ _ _ _
    · simp [Mov.own, Mov.tell]
    · simp [Mov.read, Mov.tell]
  · unfold Mov.getM
    repeat' split
    · simp [Mov.own, Mov.tell]
    · exact wait_out _ _ _ _ _
  · simp [Mov.put, Mov.tell]
  · exact wait_out _ _ _ _ _
  · exact wait_out _ _ _ _ _
theorem askE_len (e : Ent) (by_ : Int) (x : Ms) : (askE e by_ x).2.1.length ≤ 8 := by
  unfold askE
  repeat' split
  all_goals first | exact asked_out _ _ _ | simp
/-- what a call made that began with nothing: no colour -/
theorem OwnS_unc {α : Type} {enc : α → List Value} {z : Nat} {o : Col Cl} {g' : G} {v : Value} {xs : List α} (hL : Live o g) (h : OwnS enc z g g' v xs) : Sl enc z (unc o g') v xs := by
  rcases h with ⟨a, b, w, rfl, hw⟩ | ⟨lc, c, bk, rfl, hg, h0, hl, hc⟩
  · have hx : xs = [] := List.eq_nil_of_length_eq_zero a
    subst hx
    refine ⟨w, 0, rfl, by simp, hw, fun h => absurd h (by simp)⟩
  · have : OwnS enc z g (unc o g') (.slice (some ⟨lc, 0, none⟩) xs.length c) xs := .inr ⟨lc, c, bk, rfl, by rw [unc_none (hL.fresh h0)]; exact hg, h0, hl, hc⟩
    exact this.sl
section
variable {o : Col Cl} {l : Nat} {W : SysW} {S : Sys} {K : Cont}
set_option maxRecDepth 100000 in
theorem SPush_spec (h : SysH o g l W S) (hs : S.shp) (line : Int)
    (hK : ∀ o' g' n' W', Sub (unc o g) (unc o' g') → SysH o' g' l W' (S.push line).1 → K (.int .i64 (S.push line).2) g' n') : AC mesi_System_Push_id [ptr l 0, .int .i64 line] g n K := by
  refine ACalls.fold X0_mono ?_
  rw [← mesi_System_Push_eq]
  simp only [mesi_System_Push, kNil_p, kPtr_p, zEnt, kAgg_a]
  refine sline_spec h line (fun n1 => wNot (kSp_b (fun h1 => ?_) (fun h1 => ?_)))
  · have e1 : S.push line = (S, 1) := by unfold Sys.push; rw [Sys.line_f (by simpa using h1)]
    rw [e1] at hK
    exact aRet_of (Sub.refl _) (hK _ _ _ _ (Sub.refl _) h)
  obtain ⟨i, e, rfl, hi, he⟩ := Sys.line_t (by simpa using h1)
  refine h.lds (sysC_get (i := 1)) (h.idxE hi ?_)
  simp only [kPtr_p]
  refine h.ldE hi (Ready_spec e (fun g2 n2 s2 => wNot (kSp_b (fun a => ?_) (fun a => ?_))))
  · have e1 : S.push (i : Nat) = (S, 16) := by unfold Sys.push; rw [he]; simp only; rw [if_pos (by simpa using a)]
    rw [e1] at hK
    exact aRet_of (Sub.refl _) (hK _ _ _ _ (Sub.uncs h.live s2) (h.mono s2))
  have no1 : ¬ readyE e = false := by simpa using a
  refine write_spec (h.mono s2) hs hi (fun o3 g3 n3 W3 u3 w3 h3 => wNeq (kSp_d (fun f => ?_) (fun f => ?_)))
  · have e1 : S.push (i : Nat) = S.write i e := by unfold Sys.push; rw [he]; simp only; rw [if_neg no1, if_pos f]
    rw [e1] at hK
    exact aRet_of (Sub.refl _) (hK _ _ _ _ ((Sub.uncs h.live s2).trans u3) h3)
  have hi3 : (S.write i e).1.dir[i]? = some e := by rw [write_dir]; exact hi
  refine h3.lds (sysC_get (i := 1)) (h3.idxE hi3 ?_)
  simp only [kPtr_p]
  refine h3.ldE hi3 (Pushed_spec e (fun v4 g4 n4 s4 o4 => ?_))
  simp only [kExtract_t, kGet_zero, kGet_succ, kAgg_a]
  intro hn
  have s5 := (Sub.refl g4).new hn (some (.cells (encEnt zeroEnt) .exact))
  have x5 : upd g4 n4 (some (.cells (encEnt zeroEnt) .exact)) n4 = some (.cells (encEnt zeroEnt) .exact) := upd_same _ _ _
  refine stEn x5 ?_
  have s6 : Sub g4 (upd (upd g4 n4 (some (.cells (encEnt zeroEnt) .exact))) n4 (some (.cells (encEnt (pushedE e).1) .exact))) := s5.upd_fresh _ hn
  have x6 : upd (upd g4 n4 (some (.cells (encEnt zeroEnt) .exact))) n4 (some (.cells (encEnt (pushedE e).1) .exact)) n4 = some (.cells (encEnt (pushedE e).1) .exact) := upd_same _ _ _
  generalize upd (upd g4 n4 (some (.cells (encEnt zeroEnt) .exact))) n4 (some (.cells (encEnt (pushedE e).1) .exact)) = g6 at s6 x6 ⊢
  have h6 := h3.mono (s4.trans s6)
  have u6 := ((Sub.uncs h.live s2).trans u3).trans (Sub.uncs h3.live (s4.trans s6))
  have sl6 : Sl encSnd 13 (unc o3 g6) v4 (pushedE e).2.1 := (OwnS_unc h3.live o4).mono (Sub.uncs (h3.live.sub s4) s6)
  refine wNeq (kSp_d (fun p => ?_) (fun p => ?_))
  · have e1 : S.push (i : Nat) = ((S.write i e).1, (pushedE e).2.2) := by unfold Sys.push; rw [he]; simp only; rw [if_neg no1, if_neg f, if_pos p]
    rw [e1] at hK
    exact aRet_of (Sub.refl _) (hK _ _ _ _ u6 h6)
  have e1 : S.push (i : Nat) = (((S.write i e).1.setE i (pushedE e).1).sends (i : Nat) (pushedE e).2.1, 0) := by unfold Sys.push; rw [he]; simp only; rw [if_neg no1, if_neg f, if_neg p]
  rw [e1] at hK
  refine h6.lds (sysC_get (i := 1)) (ldEn x6 (h6.idxE hi3 ?_))
  simp only [kPtr_p]
  refine h6.stE hi3 (pushedE e).1 (fun g7 u7 h7 => ?_)
  refine sends_spec h7 (i : Nat) (sl6.mono u7) (by have := pushedE_len e; omega) (fun o8 g8 n8 W8 u8 h8 => ?_)
  exact aRet_of (Sub.refl _) (hK _ _ _ _ ((u6.trans u7).trans u8) h8)
end
end Go.Proofs.YtjpckcikmfihlaaGreat.Gen

namespace Go.Proofs.YtjpckcikmfihlaaGreat.Gen
open Go Go.Proofs.YtjpckcikmfihlaaGreat.Abs Go.RowKit
variable {g : G} {n : Nat}
theorem zMs : [Value.int .i64 0, .int .i64 0, .bool false, .bool false, .int .u64 0, .int .u64 0, .int .u64 0, .int .u64 0, .int .u64 0, .int .u64 0, .int .u64 0, .int .u64 0] = encM zeroM := rfl
def Sys.got (S : Sys) (k : Nat) (e : Ent) : Ent := if e.here = true then e else { e with data := readQ S.q S.D (k : Nat), here := true }
theorem here_got (S : Sys) (k : Nat) (e : Ent) (hi : S.dir[k]? = some e) : S.here k e = S.setE k (S.got k e) := by
  unfold Sys.here Sys.got
  split
  · unfold Sys.setE; rw [set_self hi]
  · rfl
def Sys.up (S : Sys) (core : Int) : Sys × Int :=
  match S.at core with
  | none => (S, 1)
  | some (i, N) => match N.up with
    | [] => (S, 14)
    | m :: r => match S.ent m.line with
      | none => (S, 1)
      | some (k, e) => if e.busy ≠ 0 then (S, 15) else
        if (askE (S.got k e) core m).2.2 ≠ 0 then (S.here k e, (askE (S.got k e) core m).2.2) else
        ((((S.here k e).setN i { N with up := r }).setE k (askE (S.got k e) core m).1).sends m.line (askE (S.got k e) core m).2.1, 0)
def Sys.answer (S : Sys) (core : Int) : Sys × Int :=
  match S.at core with
  | none => (S, 1)
  | some (i, N) => match N.ans with
    | [] => (S, 14)
    | m :: r => match S.ent m.line with
      | none => (S, 1)
      | some (k, e) => if (answerE e core m).2.2 ≠ 0 then (S.setN i { N with ans := r }, (answerE e core m).2.2) else
        (((S.setN i { N with ans := r }).setE k (answerE e core m).1).sends m.line (answerE e core m).2.1, 0)
section
variable {o : Col Cl} {l : Nat} {W : SysW} {S : Sys} {K : Cont}
/-- an entry that changed, and what is told -/
theorem move_tail (h : SysH o g l W S) {l6 l8 k : Nat} {m : Ms} {e e' : Ent} {xs : List Snd} {v38 : Value} (hi : S.dir[k]? = some e) (hm : m.line = (k : Nat)) (x6 : unc o g l6 = some (.cells (encM m) .exact)) (x8 : unc o g l8 = some (.cells (encEnt e') .exact)) (hsl : Sl encSnd 13 (unc o g) v38 xs) (hlen : xs.length < 1000000)
    (hK : ∀ o' g' n' W', Sub (unc o g) (unc o' g') → SysH o' g' l W' ((S.setE k e').sends m.line xs) → K (.int .i64 0) g' n') :
    kLd g l (0 + 8) fun v46 => kLd g l6 (0 + 1) fun v48 => kLdN g l8 0 15 fun c49 => kIndexAddr v46 v48 15 fun v50 => kPtr v50 fun lg8 og8 => c49.length = 15 ∧ kStN g lg8 og8 c49 fun g8 => kLd g8 l6 (0 + 1) fun v54 => AC mesi_System_sends_id [ptr l 0, v38, v54] g8 n fun v55 g9 n55 => aRet K (.int .i64 0) g9 n55 := by
  refine h.lds (sysC_get (i := 1)) (ldM1 ((unc_sub _ _).live x6) (ldEn ((unc_sub _ _).live x8) ?_))
  rw [hm] at hK ⊢
  refine h.idxE hi ?_
  simp only [kPtr_p]
  refine h.stE hi e' (fun g7 u7 h7 => ?_)
  refine ldM1 ((unc_sub _ _).live (u7.live x6)) ?_
  rw [hm]
  refine sends_spec h7 (k : Nat) (hsl.mono u7) hlen (fun o8 g8 n8 W8 u8 h8 => ?_)
  exact aRet_of (Sub.refl _) (hK _ _ _ _ (u7.trans u8) h8)
set_option maxRecDepth 100000 in
theorem SAnswer_spec (h : SysH o g l W S) (hl : ∀ (i : Nat) N, S.nodes[i]? = some N → ∀ m ∈ N.ans, S.line m.line = true) (core : Int)
    (hK : ∀ o' g' n' W', Sub (unc o g) (unc o' g') → SysH o' g' l W' (S.answer core).1 → K (.int .i64 (S.answer core).2) g' n') : AC mesi_System_Answer_id [ptr l 0, .int .i64 core] g n K := by
  refine ACalls.fold X0_mono ?_
  rw [← mesi_System_Answer_eq]
  simp only [mesi_System_Answer, zEnt, zMs]
  refine sat_spec h core (fun ha n1 => ?_) (fun i N ha hc hN x hx g1 n1 st s1 h1 => ?_)
  · have e : S.answer core = (S, 1) := by unfold Sys.answer; rw [ha]
    rw [e] at hK
    exact aRet_of (Sub.refl _) (hK _ _ _ _ (Sub.refl _) h)
  refine wNilQ (kSp_b (fun h => nomatch h) (fun _ => ?_))
  simp only [kNil_p, kPtr_p]
  refine pop_ans (W := { W with st := st }) h1 hx hN (fun g2 n2 W2 u2 w2 h2 => ?_)
  simp only [kExtract_t, kGet_zero, kGet_succ, kAgg_a]
  intro hn
  have s3 := (Sub.refl g2).new hn (some (.cells (encM zeroM) .exact))
  have x3 : upd g2 n2 (some (.cells (encM zeroM) .exact)) n2 = some (.cells (encM zeroM) .exact) := upd_same _ _ _
  refine stM x3 (fun x4 => ?_)
  have s4 : Sub g2 (upd (upd g2 n2 (some (.cells (encM zeroM) .exact))) n2 (some (.cells (encM (N.ans.headD zeroM)) .exact))) := s3.upd_fresh _ hn
  generalize upd (upd g2 n2 (some (.cells (encM zeroM) .exact))) n2 (some (.cells (encM (N.ans.headD zeroM)) .exact)) = g4 at s4 x4 ⊢
  have x4u : unc o g4 n2 = some (.cells (encM (N.ans.headD zeroM)) .exact) := by rw [unc_none (h2.live.fresh hn)]; exact x4
  have h4 := h2.mono s4
  have u4 := (s1.trans u2).trans (Sub.uncs h2.live s4)
  cases hq : N.ans with
  | nil =>
    refine wNot (kSp_b (fun _ => ?_) (fun h => nomatch h))
    have e : S.answer core = (S, 14) := by unfold Sys.answer; rw [ha]; simp only; rw [hq]
    rw [e] at hK
    have e2 : S.setN i { N with ans := N.ans.tail } = S := by
      have : ({ N with ans := N.ans.tail } : Nd) = N := by rw [hq]; cases N; simp_all
      rw [this]; exact setN_self hN
    rw [e2] at h4
    exact aRet_of (Sub.refl _) (hK _ _ _ _ u4 h4)
  | cons m r =>
    refine wNot (kSp_b (fun h => nomatch h) (fun _ => ?_))
    rw [hq] at x4 x4u h4
    simp only [List.headD_cons, List.tail_cons] at x4 x4u h4
    obtain ⟨k, e, hk, hi, he⟩ := Sys.line_t (hl i N hN m (by rw [hq]; simp))
    have hi1 : (S.setN i { N with ans := r }).dir[k]? = some e := hi
    refine h4.lds (sysC_get (i := 1)) (ldM1 x4 ?_)
    rw [hk]
    refine h4.idxE hi1 ?_
    simp only [kPtr_p]
    refine h4.ldE hi1 (ldM x4 ?_)
    have hA : S.answer core = if (answerE e core m).2.2 ≠ 0 then (S.setN i { N with ans := r }, (answerE e core m).2.2) else
        (((S.setN i { N with ans := r }).setE k (answerE e core m).1).sends m.line (answerE e core m).2.1, 0) := by
      unfold Sys.answer; rw [ha]; simp only; rw [hq]; simp only; rw [he]
    have tail : ∀ (g8 : G) (n8 l8 : Nat) (v38 : Value), Sub g4 g8 → unc o g8 l8 = some (.cells (encEnt (answerE e core m).1) .exact) → Sl encSnd 13 (unc o g8) v38 (answerE e core m).2.1 →
        kBin .int .neq (.int .i64 (answerE e core m).2.2) (.int .i64 0) fun v41 => kSplit v41 (aRet K (.int .i64 (answerE e core m).2.2) g8 n8) (kLd g8 l (0 + 8) fun v46 => kLd g8 n2 (0 + 1) fun v48 => kLdN g8 l8 0 15 fun c49 => kIndexAddr v46 v48 15 fun v50 => kPtr v50 fun lg8 og8 => c49.length = 15 ∧ kStN g8 lg8 og8 c49 fun g8 => kLd g8 n2 (0 + 1) fun v54 => AC mesi_System_sends_id [ptr l 0, v38, v54] g8 n8 fun v55 g9 n55 => aRet K (.int .i64 0) g9 n55) := by
      intro g8 n8 l8 v38 s8 x8 hsl
      have h8 := h4.mono s8
      have u8 := u4.trans (Sub.uncs h4.live s8)
      refine wNeq (kSp_d (fun p => ?_) (fun p => ?_))
      · rw [hA, if_pos p] at hK
        exact aRet_of (Sub.refl _) (hK _ _ _ _ u8 h8)
      · rw [hA, if_neg p] at hK
        refine move_tail h8 hi1 hk ((Sub.uncs h4.live s8).live x4u) x8 hsl (by have := answerE_len e core m; omega) (fun o' g' n' W' u' h' => ?_)
        exact hK _ _ _ _ (u8.trans u') h'
    refine ⟨?_, ?_⟩
    · refine Answer_spec e core m (fun v5 g5 n5 s5 o5 => ?_)
      simp only [kExtract_t, kGet_zero, kGet_succ, kAgg_a]
      intro hn6
      have s6 := (Sub.refl g5).new hn6 (some (.cells (encEnt zeroEnt) .exact))
      have x6 : upd g5 n5 (some (.cells (encEnt zeroEnt) .exact)) n5 = some (.cells (encEnt zeroEnt) .exact) := upd_same _ _ _
      have k6 : ∀ i b, g5 i = some b → upd g5 n5 (some (.cells (encEnt zeroEnt) .exact)) i = g5 i := fun i b hb => (s6.live hb).trans hb.symm
      refine ⟨k6 _ _ (s5.live h4.hsys), k6 _ _ (s5.live x4), k6 _ _ (s5.live h4.hdir), k6 _ _ (s5.live x4), ?_⟩
      refine stEn x6 ?_
      have s7 : Sub g5 (upd (upd g5 n5 (some (.cells (encEnt zeroEnt) .exact))) n5 (some (.cells (encEnt (answerE e core m).1) .exact))) := s6.upd_fresh _ hn6
      refine tail _ _ _ _ (s5.trans s7) ?_ ((OwnS_unc h4.live o5).mono (Sub.uncs (h4.live.sub s5) s7))
      rw [unc_none ((h4.live.sub s5).fresh hn6)]; exact upd_same _ _ _
    · intro hn6
      have s6 := (Sub.refl g4).new hn6 (some (.cells (encEnt zeroEnt) .exact))
      have x6 : upd g4 n2.succ (some (.cells (encEnt zeroEnt) .exact)) n2.succ = some (.cells (encEnt zeroEnt) .exact) := upd_same _ _ _
      have k6 : ∀ i b, g4 i = some b → upd g4 n2.succ (some (.cells (encEnt zeroEnt) .exact)) i = g4 i := fun i b hb => (s6.live hb).trans hb.symm
      refine ⟨k6 _ _ h4.hsys, k6 _ _ x4, k6 _ _ h4.hdir, k6 _ _ x4, ?_⟩
      refine Answer_spec e core m (fun v5 g5 n5 s5 o5 => ?_)
      simp only [kExtract_t, kGet_zero, kGet_succ, kAgg_a]
      have x7 := s5.live x6
      refine stEn x7 ?_
      have hfr : o n2.succ = none := h4.live.fresh hn6
      have s7 : Sub g4 (upd g5 n2.succ (some (.cells (encEnt (answerE e core m).1) .exact))) := (s6.trans s5).upd_fresh _ hn6
      refine tail _ _ _ _ s7 ?_ ?_
      · rw [unc_none hfr]; exact upd_same _ _ _
      · exact OwnS_unc (h4.live.sub s6) (OwnS_updO o5 x6 _)
end
end Go.Proofs.YtjpckcikmfihlaaGreat.Gen

namespace Go.Proofs.YtjpckcikmfihlaaGreat.Gen
open Go Go.Proofs.YtjpckcikmfihlaaGreat.Abs Go.RowKit
variable {g : G} {n : Nat}
theorem got_here (S : Sys) (k : Nat) (e : Ent) : (S.got k e).here = true := by unfold Sys.got; split; assumption; rfl
section
variable {o : Col Cl} {l : Nat} {W : SysW} {S : Sys} {K : Cont}
set_option maxRecDepth 100000 in
theorem SUp_spec (h : SysH o g l W S) (hs : S.shp) (hl : ∀ (i : Nat) N, S.nodes[i]? = some N → ∀ m ∈ N.up, S.line m.line = true) (core : Int)
    (hK : ∀ o' g' n' W', Sub (unc o g) (unc o' g') → SysH o' g' l W' (S.up core).1 → K (.int .i64 (S.up core).2) g' n') : AC mesi_System_Up_id [ptr l 0, .int .i64 core] g n K := by
  refine ACalls.fold X0_mono ?_
  rw [← mesi_System_Up_eq]
  simp only [mesi_System_Up, zEnt, zMs]
  refine sat_spec h core (fun ha n1 => ?_) (fun i N ha hc hN x hx g1 n1 st s1 h1 => ?_)
  · have e : S.up core = (S, 1) := by unfold Sys.up; rw [ha]
    rw [e] at hK
    exact aRet_of (Sub.refl _) (hK _ _ _ _ (Sub.refl _) h)
  refine wNilQ (kSp_b (fun h => nomatch h) (fun _ => ?_))
  simp only [kNil_p, kPtr_p]
  refine Head_spec h1.hnodes ((ns_get hx (by decide)).trans (show (encN x)[1]? = some x.vu from rfl)) ((h1.node i x N hx hN).up.sl encM_len) (fun g2 n2 s2 => ?_)
  have h2 := h1.mono s2
  have u2 := s1.trans (Sub.uncs h1.live s2)
  simp only [kExtract_t, kGet_zero, kGet_succ, kAgg_a]
  intro hn
  have s3 := (Sub.refl g2).new hn (some (.cells (encM zeroM) .exact))
  have x3 : upd g2 n2 (some (.cells (encM zeroM) .exact)) n2 = some (.cells (encM zeroM) .exact) := upd_same _ _ _
  refine stM x3 (fun x4 => ?_)
  have s4 : Sub g2 (upd (upd g2 n2 (some (.cells (encM zeroM) .exact))) n2 (some (.cells (encM (N.up.headD zeroM)) .exact))) := s3.upd_fresh _ hn
  generalize upd (upd g2 n2 (some (.cells (encM zeroM) .exact))) n2 (some (.cells (encM (N.up.headD zeroM)) .exact)) = g4 at s4 x4 ⊢
  have x4u : unc o g4 n2 = some (.cells (encM (N.up.headD zeroM)) .exact) := by rw [unc_none (h2.live.fresh hn)]; exact x4
  have h4 := h2.mono s4
  have u4 := u2.trans (Sub.uncs h2.live s4)
  cases hq : N.up with
  | nil =>
    refine wNot (kSp_b (fun _ => ?_) (fun h => nomatch h))
    have e : S.up core = (S, 14) := by unfold Sys.up; rw [ha]; simp only; rw [hq]
    rw [e] at hK
    exact aRet_of (Sub.refl _) (hK _ _ _ _ u4 h4)
  | cons m r =>
    refine wNot (kSp_b (fun h => nomatch h) (fun _ => ?_))
    rw [hq] at x4 x4u
    simp only [List.headD_cons] at x4 x4u
    obtain ⟨k, e, hk, hi, he⟩ := Sys.line_t (hl i N hN m (by rw [hq]; simp))
    refine h4.lds (sysC_get (i := 1)) (ldM1 x4 ?_)
    rw [hk]
    refine h4.idxE hi ?_
    simp only [kPtr_p]
    refine h4.ldEk hi (by decide) (ent_12 e) (wNeq (kSp_d (fun hb => ?_) (fun hb => ?_)))
    · have e1 : S.up core = (S, 15) := by unfold Sys.up; rw [ha]; simp only; rw [hq]; simp only; rw [he]; simp only; rw [if_pos hb]
      rw [e1] at hK
      exact aRet_of (Sub.refl _) (hK _ _ _ _ u4 h4)
    refine ldM1 x4 ?_
    rw [hk]
    refine here_spec h4 hs hi (fun g5 n5 W5 u5 wd5 wn5 h5 => ?_)
    have x5u := u5.live x4u
    have x5 := (unc_sub _ _).live x5u
    have hi5 : (S.here k e).dir[k]? = some (S.got k e) := by rw [here_got _ _ _ hi]; exact setE_get hi
    have hN5 : (S.here k e).nodes[i]? = some N := by rw [here_got _ _ _ hi]; exact hN
    obtain ⟨y, hy⟩ := h5.nv hN5
    have u5' := u4.trans u5
    refine h5.lds (sysC_get (i := 1)) (ldM1 x5 ?_)
    rw [hk]
    refine h5.idxE hi5 ?_
    simp only [kPtr_p]
    refine h5.ldE hi5 (ldM x5 ?_)
    have hA : S.up core = if (askE (S.got k e) core m).2.2 ≠ 0 then (S.here k e, (askE (S.got k e) core m).2.2) else
        ((((S.here k e).setN i { N with up := r }).setE k (askE (S.got k e) core m).1).sends m.line (askE (S.got k e) core m).2.1, 0) := by
      unfold Sys.up; rw [ha]; simp only; rw [hq]; simp only; rw [he]; simp only; rw [if_neg hb]
    have wn : W.ln = W5.ln := wn5.symm
    rw [wn]
    have tail : ∀ (g8 : G) (n8 l8 : Nat) (v38 : Value), Sub g5 g8 → unc o g8 l8 = some (.cells (encEnt (askE (S.got k e) core m).1) .exact) → Sl encSnd 13 (unc o g8) v38 (askE (S.got k e) core m).2.1 →
        kBin .int .neq (.int .i64 (askE (S.got k e) core m).2.2) (.int .i64 0) fun v41 => kSplit v41 (aRet K (.int .i64 (askE (S.got k e) core m).2.2) g8 n8) (AC msg_Queue_Pop_id [ptr W5.ln (i * 4 + 1)] g8 n8 fun v62 g9 n62 => kLd g9 l (0 + 8) fun v46 => kLd g9 n2 (0 + 1) fun v48 => kLdN g9 l8 0 15 fun c49 => kIndexAddr v46 v48 15 fun v50 => kPtr v50 fun lg8 og8 => c49.length = 15 ∧ kStN g9 lg8 og8 c49 fun g8 => kLd g8 n2 (0 + 1) fun v54 => AC mesi_System_sends_id [ptr l 0, v38, v54] g8 n62 fun v55 g9 n55 => aRet K (.int .i64 0) g9 n55) := by
      intro g8 n8 l8 v38 s8 x8 hsl
      have h8 := h5.mono s8
      have u8 := u5'.trans (Sub.uncs h5.live s8)
      refine wNeq (kSp_d (fun p => ?_) (fun p => ?_))
      · rw [hA, if_pos p] at hK
        exact aRet_of (Sub.refl _) (hK _ _ _ _ u8 h8)
      · rw [hA, if_neg p] at hK
        refine pop_up h8 hy hN5 (fun g9 n9 W9 u9 w9 h9 => ?_)
        have hr : ({ N with up := N.up.tail } : Nd) = { N with up := r } := by rw [hq]; rfl
        rw [hr] at h9
        refine move_tail h9 (show ((S.here k e).setN i { N with up := r }).dir[k]? = some _ from hi5) hk (u9.live ((Sub.uncs h5.live s8).live x5u)) (u9.live x8) (hsl.mono u9) (by have := askE_len (S.got k e) core m; omega) (fun o' g' n' W' u' h' => ?_)
        exact hK _ _ _ _ ((u8.trans u9).trans u') h'
    refine ⟨?_, ?_⟩
    · refine Ask_spec (S.got k e) core m (fun v6 g6 n6 s6 o6 => ?_)
      simp only [kExtract_t, kGet_zero, kGet_succ, kAgg_a]
      intro hn6
      have s7 := (Sub.refl g6).new hn6 (some (.cells (encEnt zeroEnt) .exact))
      have x7 : upd g6 n6 (some (.cells (encEnt zeroEnt) .exact)) n6 = some (.cells (encEnt zeroEnt) .exact) := upd_same _ _ _
      have k6 : ∀ i b, g6 i = some b → upd g6 n6 (some (.cells (encEnt zeroEnt) .exact)) i = g6 i := fun i b hb => (s7.live hb).trans hb.symm
      refine ⟨k6 _ _ (s6.live h5.hsys), k6 _ _ (s6.live x5), k6 _ _ (s6.live h5.hdir), k6 _ _ (s6.live x5), ?_⟩
      refine stEn x7 ?_
      have s8 : Sub g6 (upd (upd g6 n6 (some (.cells (encEnt zeroEnt) .exact))) n6 (some (.cells (encEnt (askE (S.got k e) core m).1) .exact))) := s7.upd_fresh _ hn6
      refine tail _ _ _ _ (s6.trans s8) ?_ ((OwnS_unc h5.live o6).mono (Sub.uncs (h5.live.sub s6) s8))
      rw [unc_none ((h5.live.sub s6).fresh hn6)]; exact upd_same _ _ _
    · intro hn6
      have s7 := (Sub.refl g5).new hn6 (some (.cells (encEnt zeroEnt) .exact))
      have x7 : upd g5 n5 (some (.cells (encEnt zeroEnt) .exact)) n5 = some (.cells (encEnt zeroEnt) .exact) := upd_same _ _ _
      have k6 : ∀ i b, g5 i = some b → upd g5 n5 (some (.cells (encEnt zeroEnt) .exact)) i = g5 i := fun i b hb => (s7.live hb).trans hb.symm
      refine ⟨k6 _ _ h5.hsys, k6 _ _ x5, k6 _ _ h5.hdir, k6 _ _ x5, ?_⟩
      refine Ask_spec (S.got k e) core m (fun v6 g6 n6 s6 o6 => ?_)
      simp only [kExtract_t, kGet_zero, kGet_succ, kAgg_a]
      have x8 := s6.live x7
      refine stEn x8 ?_
      have hfr : o n5 = none := h5.live.fresh hn6
      have s8 : Sub g5 (upd g6 n5 (some (.cells (encEnt (askE (S.got k e) core m).1) .exact))) := (s7.trans s6).upd_fresh _ hn6
      refine tail _ _ _ _ s8 ?_ ?_
      · rw [unc_none hfr]; exact upd_same _ _ _
      · exact OwnS_unc (h5.live.sub s7) (OwnS_updO o6 x7 _)
end
def Sys.hear (S : Sys) (core : Int) : Sys × Ms × Int :=
  match S.at core with
  | none => (S, zeroM, 1)
  | some (i, N) => match N.dn with
    | [] => (S, zeroM, 14)
    | m :: r => (S.setN i { N with A := (N.A.hear m).2.1, dn := r, ans := pushAll N.ans (N.A.hear m).1 }, m, (N.A.hear m).2.2)
section
variable {o : Col Cl} {l : Nat} {W : SysW} {S : Sys} {K : Cont}
/-- the coloured blocks are as they were -/
def Same (o : Col Cl) (g g' : G) : Prop := ∀ i c, o i = some c → g' i = g i
theorem QV_same {α : Type} {enc : α → List Value} {z : Nat} {c : Cl} {g' : G} {v : Value} {xs : List α} (h : QV enc z o c g v xs) (k : Same o g g') : QV enc z o c g' v xs := by
  rcases h with h | ⟨l, off, cs, rfl, ho, hg, hl, he⟩
  · exact .inl h
  · exact .inr ⟨l, off, cs, rfl, ho, (k _ _ ho).trans hg, hl, he⟩
theorem NodeH_same {g' : G} {i : Nat} {x : NV} {N : Nd} (h : NodeH o g i x N) (k : Same o g g') : NodeH o g' i x N :=
  ⟨h.og, h.oa, h.os, h.ag.of_eq (k _ _ h.og) (k _ _ h.oa) (k _ _ h.os), QV_same h.up k, QV_same h.ans k, QV_same h.dn k⟩
theorem EV_same {g' : G} {v : Value} {es : List En} (h : EV o g v es) (k : Same o g g') : EV o g' v es := by
  rcases h with h | ⟨le, rest, rfl, ho, hg, hl⟩
  · exact .inl h
  · exact .inr ⟨le, rest, rfl, ho, (k _ _ ho).trans hg, hl⟩
theorem DevH_same {g' : G} {ld lm : Nat} {D : Dev} (h : DevH o g ld lm D) (k : Same o g g') : DevH o g' ld lm D := by
  obtain ⟨r, w, hd⟩ := h.hd
  exact ⟨h.od, h.om, ⟨r, w, (k _ _ h.od).trans hd⟩, (k _ _ h.om).trans h.hm⟩
theorem SysH.same {g' : G} (h : SysH o g l W S) (k : Same o g g') : SysH o g' l W S :=
  ⟨fun i c e => by obtain ⟨b, hb⟩ := h.live i c e; exact ⟨b, (k _ _ e).trans hb⟩, h.osys, (k _ _ h.osys).trans h.hsys, h.onodes, (k _ _ h.onodes).trans h.hnodes, h.len, fun i x N a b => NodeH_same (h.node i x N a b) k,
    h.odir, (k _ _ h.odir).trans h.hdir, ⟨h.que.oq, (k _ _ h.que.oq).trans h.que.hq, EV_same h.que.he k⟩, DevH_same h.dev k⟩
theorem same_upd {m : Nat} (ho : o m = none) (b : Option Blk) : Same o g (upd g m b) := fun i c e => upd_ne _ _ (fun h => by rw [h, ho] at e; cases e)
theorem stMm {l : Nat} {m z : Ms} {K : G → Prop} (h : g l = some (.cells (encM z) .exact)) (k : K (upd g l (some (.cells (encM m) .exact)))) : (encM m).length = 12 ∧ kStN g l 0 (encM m) K := stM h (fun _ => k)
set_option maxRecDepth 100000 in
theorem SHear_spec (h : SysH o g l W S) (hf : S.fit) (core : Int)
    (hK : ∀ o' g' n' W', Sub (unc o g) (unc o' g') → SysH o' g' l W' (S.hear core).1 → K (.tuple #[.agg (encM (S.hear core).2.1).toArray, .int .i64 (S.hear core).2.2]) g' n') : AC mesi_System_Hear_id [ptr l 0, .int .i64 core] g n K := by
  refine ACalls.fold X0_mono ?_
  rw [← mesi_System_Hear_eq]
  simp only [mesi_System_Hear, zMs, kFill_nil, kAgg_a]
  intro hn0
  have s0 := (Sub.refl g).new hn0 (some (.cells (encM zeroM) .exact))
  have x0 : upd g n (some (.cells (encM zeroM) .exact)) n = some (.cells (encM zeroM) .exact) := upd_same _ _ _
  have h0 := h.mono s0
  have u0 := Sub.uncs h.live s0
  have x0u : unc o (upd g n (some (.cells (encM zeroM) .exact))) n = some (.cells (encM zeroM) .exact) := by rw [unc_none (h.live.fresh hn0)]; exact x0
  generalize upd g n (some (.cells (encM zeroM) .exact)) = g0 at s0 x0 h0 u0 x0u ⊢
  -- the answer goes into the result's block
  have ret : ∀ (o1 : Col Cl) (g1 : G) (n1 : Nat) (m : Ms) (c : Int) (W1 : SysW), Sub (unc o g0) (unc o1 g1) → SysH o1 g1 l W1 (S.hear core).1 → S.hear core = ((S.hear core).1, m, c) →
      ((encM m).length = 12 ∧ kStN g1 n 0 (encM m) fun g3 => kLdN g3 n 0 12 fun r0 => aRet K (.tuple #[.agg r0.toArray, .int .i64 c]) g3 n1) := by
    intro o1 g1 n1 m c W1 u1 h1 e1
    have x1 := u1.live x0u
    refine stMm ((unc_sub _ _).live x1) (ldM (upd_same _ _ _) ?_)
    have ho1 : o1 n = none := by
      cases ho : o1 n with
      | none => rfl
      | some c => rw [unc_some ho] at x1; cases x1
    rw [e1] at hK
    refine aRet_of (Sub.refl _) (hK o1 _ _ W1 ?_ ?_)
    · have hu : unc o g n = none := by rw [unc_none (h.live.fresh hn0)]; exact hn0
      have := ((u0.trans u1).upd_fresh (some (.cells (encM m) .exact)) hu)
      intro i
      rcases this i with a | a
      · exact .inl a
      · right
        rw [a]
        by_cases hi : i = n
        · subst hi; rw [upd_same, unc_none ho1, upd_same]
        · rw [upd_ne _ _ hi]; unfold unc; split
          · rw [upd_ne _ _ hi]
          · rfl
    · exact h1.same (same_upd ho1 _)
  refine sat_spec h0 core (fun ha n1 => ?_) (fun i N ha hc hN x hx g1 n1 st s1 h1 => ?_)
  · have e : S.hear core = (S, zeroM, 1) := by unfold Sys.hear; rw [ha]
    rw [kBin_pnil_eql]
    refine kSp_b (fun _ => ?_) (fun h => nomatch h)
    exact ret _ _ _ _ _ W (Sub.refl _) (by rw [e]; exact h0) (by rw [e])
  refine wNilQ (kSp_b (fun h => nomatch h) (fun _ => ?_))
  simp only [kNil_p, kPtr_p]
  refine pop_dn (W := { W with st := st }) h1 hx hN (fun g2 n2 W2 u2 w2 h2 => ?_)
  simp only [kExtract_t, kGet_zero, kGet_succ, kAgg_a]
  intro hn
  have s3 := (Sub.refl g2).new hn (some (.cells (encM zeroM) .exact))
  have x3 : upd g2 n2 (some (.cells (encM zeroM) .exact)) n2 = some (.cells (encM zeroM) .exact) := upd_same _ _ _
  refine stM x3 (fun x4 => ?_)
  have s4 : Sub g2 (upd (upd g2 n2 (some (.cells (encM zeroM) .exact))) n2 (some (.cells (encM (N.dn.headD zeroM)) .exact))) := s3.upd_fresh _ hn
  generalize upd (upd g2 n2 (some (.cells (encM zeroM) .exact))) n2 (some (.cells (encM (N.dn.headD zeroM)) .exact)) = g4 at s4 x4 ⊢
  have x4u : unc o g4 n2 = some (.cells (encM (N.dn.headD zeroM)) .exact) := by rw [unc_none (h2.live.fresh hn)]; exact x4
  have h4 := h2.mono s4
  have u4 := (s1.trans u2).trans (Sub.uncs h2.live s4)
  cases hq : N.dn with
  | nil =>
    refine wNot (kSp_b (fun _ => ?_) (fun h => nomatch h))
    have e : S.hear core = (S, zeroM, 14) := by unfold Sys.hear; rw [ha]; simp only; rw [hq]
    have e2 : S.setN i { N with dn := N.dn.tail } = S := by
      have : ({ N with dn := N.dn.tail } : Nd) = N := by rw [hq]; cases N; simp_all
      rw [this]; exact setN_self hN
    rw [e2] at h4
    exact ret _ _ _ _ _ W2 u4 (by rw [e]; exact h4) (by rw [e])
  | cons m r =>
    refine wNot (kSp_b (fun h => nomatch h) (fun _ => ?_))
    rw [hq] at x4 x4u h4
    simp only [List.headD_cons, List.tail_cons] at x4 x4u h4
    have e : S.hear core = (S.setN i { N with A := (N.A.hear m).2.1, dn := r, ans := pushAll N.ans (N.A.hear m).1 }, m, (N.A.hear m).2.2) := by
      unfold Sys.hear; rw [ha]; simp only; rw [hq]
    obtain ⟨hok, hwf, hu⟩ := hf i N hN
    have hN4 := setN_get (a := { N with dn := r }) hN
    obtain ⟨y, hy⟩ := h4.nv hN4
    have wn : W.ln = W2.ln := w2.symm
    rw [wn]
    refine kLd_of h4.hnodes ((ns_get hy (by decide)).trans (show (encN y)[0]? = some (ptr y.lg 0) from rfl)) (ldM x4 ?_)
    refine Hear_spec (A := N.A) hok hwf hu (h4.node i y _ hy hN4).ag (fun v5 g5 n5 ho => ?_)
    obtain ⟨h5, u5, hsl⟩ := h4.agent hy hN4 ho
    rw [setN_setN] at h5
    simp only [kExtract_t, kGet_zero, kGet_succ]
    refine hsl.len ?_
    have hlen : (N.A.hear m).1.length < 1000000 := by have := hear_len N.A m; omega
    have u5' := u4.trans u5
    have x5u := u5.live x4u
    generalize (N.A.hear m).1 = ms at hsl hlen e
    generalize hA' : (N.A.hear m).2.1 = A' at h5 e
    generalize hc' : (N.A.hear m).2.2 = cc at e
    refine lfp_ind (m := ms.length) (Inv := fun q t g9 n9 => ∃ (j : Nat) (o9 : Col Cl) (W9 : SysW), q + j = ms.length ∧ Sub (unc o g5) (unc o9 g9) ∧ W9.ln = W2.ln ∧ SysH o9 g9 l W9 (S.setN i { N with A := A', dn := r, ans := pushAll N.ans (ms.take j) }) ∧ t 6 = ptr W2.ln (i * 4) ∧ t 38 = v5 ∧ t 39 = .int .i64 ms.length ∧ t 40 = .int .i64 (j : Nat) ∧ t 7 = ptr n2 0 ∧ t 4 = ptr n 0 ∧ t 10 = .int .i64 cc) ?_
      ⟨0, o, W2, by omega, Sub.refl _, rfl, h5, rfl, rfl, rfl, rfl, rfl, rfl, rfl⟩
    rintro I q t g9 n9 ih ⟨j, o9, W9, hj, s9, w9, h9, t6, t38, t39, t40, t7, t4, t10⟩
    simp only [mesi_System_Hear_l1, t6, t38, t39, t40, kBin_lss]
    by_cases hj' : j < ms.length
    · refine kSplit_t (decide_eq_true (by omega)) ?_
      obtain ⟨mm, hm⟩ : ∃ m, ms[j]? = some m := ⟨ms[j], List.getElem?_eq_getElem hj'⟩
      refine ((hsl.mono s9).mono (unc_sub _ _)).idx encM_len hm (fun li oi hat => ?_)
      simp only [kPtr_p, kNil_p, zMs]
      refine hat.ldN (by rw [encM_len]) ?_
      intro hn9
      have z1 := (Sub.refl g9).new hn9 (some (.cells (encM zeroM) .exact))
      have y1 : upd g9 n9 (some (.cells (encM zeroM) .exact)) n9 = some (.cells (encM zeroM) .exact) := upd_same _ _ _
      simp only [kAgg_a]
      refine stM y1 (fun y2 => ?_)
      have z2 : Sub g9 (upd (upd g9 n9 (some (.cells (encM zeroM) .exact))) n9 (some (.cells (encM mm) .exact))) := z1.upd_fresh _ hn9
      generalize upd (upd g9 n9 (some (.cells (encM zeroM) .exact))) n9 (some (.cells (encM mm) .exact)) = g3 at y2 z2 ⊢
      have h3 := h9.mono z2
      have hN3 := setN_get (a := { N with A := A', dn := r, ans := pushAll N.ans (ms.take j) }) hN
      obtain ⟨x3', hx3'⟩ := h3.nv hN3
      refine ldM y2 ?_
      rw [← w9]
      refine push_ans h3 hx3' hN3 mm (fun o' g' n' W' s' w' h' => ?_)
      rw [kBin_add, wrap64_of (by omega) (by omega), show ((j : Nat) : Int) + 1 = ((j + 1 : Nat) : Int) by omega]
      refine ih (q - 1) _ _ _ (by omega) ⟨j + 1, o', W', by omega, s9.trans ((Sub.uncs h9.live z2).trans s'), w'.trans w9, ?_, ?_, t38, t39, rfl, t7, t4, t10⟩
      · rw [setN_setN] at h'
        rw [List.take_add_one, hm, Option.toList_some, pushAll_snoc]
        exact h'
      · rw [w9]; exact t6
    · refine kSplit_f (decide_eq_false (by omega)) ?_
      obtain rfl : j = ms.length := by omega
      rw [List.take_length] at h9
      have t7' : (puts t [(41, Value.bool (decide ((ms.length : Int) < ms.length)))]) 7 = ptr n2 0 := t7
      simp only [mesi_System_Hear_j2]
      rw [show (puts t [(41, Value.bool (decide (((ms.length : Nat) : Int) < ((ms.length : Nat) : Int))))]) 7 = ptr n2 0 from t7, show (puts t [(41, Value.bool (decide (((ms.length : Nat) : Int) < ((ms.length : Nat) : Int))))]) 4 = ptr n 0 from t4, show (puts t [(41, Value.bool (decide (((ms.length : Nat) : Int) < ((ms.length : Nat) : Int))))]) 10 = .int .i64 cc from t10]
      simp only [kPtr_p, kAgg_a]
      refine ldM ((unc_sub _ _).live (s9.live x5u)) ?_
      exact ret o9 g9 n9 m cc W9 (u5'.trans s9) (by rw [e]; exact h9) (by rw [e])
end
end Go.Proofs.YtjpckcikmfihlaaGreat.Gen

namespace Go.Proofs.YtjpckcikmfihlaaGreat.Gen
open Go Go.Proofs.YtjpckcikmfihlaaGreat.Abs Go.RowKit
variable {g : G} {n : Nat}
/-- new blocks get colours -/
theorem Kept_paint {t : Cl → Prop} {o o' : Col Cl} {g g' : G} (hL : Live o g) (hs : Sub g g') (h : ∀ l, o' l = o l ∨ (g l = none ∧ ∃ c, t c ∧ o' l = some c)) : Kept t o o' g g' := by
  refine ⟨fun l => ?_, fun l c e ne => ?_, fun l c e ne => ?_⟩
  · rcases h l with a | ⟨a, _⟩
    · cases e : o l with
      | none =>
        rw [unc_none e, unc_none (a.trans e)]; exact hs l
      | some c => exact .inl (unc_some e)
    · exact .inl (by rw [unc_none (hL.fresh a)]; exact a)
  · obtain ⟨b, hb⟩ := hL l c e
    rcases h l with a | ⟨a, _⟩
    · exact ⟨a.trans e, (hs.live hb).trans hb.symm⟩
    · rw [hb] at a; cases a
  · rcases h l with a | ⟨_, d, hd, a⟩
    · exact a.symm.trans e
    · rw [a] at e; cases e; exact absurd hd ne
structure Cfg.good (c : Cfg) : Prop where
  cores : 1 ≤ c.cores ∧ c.cores ≤ 8
  lines : 2 ≤ c.lines ∧ c.lines ≤ 64
  vol : 1 ≤ c.vol ∧ c.vol ≤ c.lines - 1
  sets : c.sets = 1 ∨ c.sets = 2 ∨ c.sets = 4 ∨ c.sets = 8
  ways : 1 ≤ c.ways ∧ c.ways ≤ 8
  queue : 1 ≤ c.queue ∧ c.queue ≤ 16
  store : 1 ≤ c.store ∧ c.store ≤ 16
def nd0 (c : Cfg) : Nd := ⟨arr0 c.sets.toNat c.ways.toNat, [], [], []⟩
def encNo : Option NV → List Value
  | some x => encN x
  | none => [.pointer none, .slice none 0 0, .slice none 0 0, .slice none 0 0]
theorem encNo_len (x : Option NV) : (encNo x).length = 4 := by cases x <;> rfl
theorem reps_none (k : Nat) : reps k [Value.pointer none, .slice none 0 0, .slice none 0 0, .slice none 0 0] = ((List.replicate k (none : Option NV)).map encNo).flatten := flat_reps (enc := encNo) none k
theorem reps_ent (k : Nat) : reps k (encEnt zeroEnt) = ((List.replicate k zeroEnt).map encEnt).flatten := flat_reps (enc := encEnt) zeroEnt k
theorem some_encNo (xs : List NV) : ((xs.map some).map encNo) = xs.map encN := by rw [List.map_map]; rfl
section
variable {o : Col Cl} {l : Nat} {K : Cont}
/-- the second half of begin: the directory -/
theorem begin_j2 {c : Cfg} (hc : c.good) {vd v : Value} {st : Int} {ln lq le lm : Nat} {q : List En} {D : Dev} {nodes : List Nd} {ns : List NV} {t : Env} (t0 : t 0 = ptr l 0) (hL : Live o g) (ho : o l = some .sys)
    (hg : g l = some (.cells (encC c ++ [.slice (some ⟨ln, 0, none⟩) nodes.length nodes.length, vd, ptr lq 0, .int .i64 st]) .exact)) (hq : QuH o g lq le c.queue v q) (hD : DevH o g le lm D)
    (hon : o ln = some .nodes) (hgn : g ln = some (.cells (ns.map encN).flatten .exact)) (hlen : ns.length = nodes.length) (hN : ∀ (i : Nat) x N, ns[i]? = some x → nodes[i]? = some N → NodeH o g i x N)
    (hK : ∀ o' g' n' W', Sub (unc o g) (unc o' g') → SysH o' g' l W' ⟨c, nodes, List.replicate c.lines.toNat emptyEnt, q, D⟩ → K (.tuple #[]) g' n') : mesi_System_begin_j2 AC K t g n := by
  have hlines := hc.lines
  simp only [mesi_System_begin_j2, t0, kNil_p, kPtr_p, zEnt]
  refine kLd_of hg (show (encC c ++ _)[0 + 0 + 1]? = some (.int .i64 c.lines) from rfl) ?_
  refine ⟨by omega, Int.le_refl _, by omega, by omega, ?_⟩
  intro hn
  have hno := hL.fresh hn
  rw [reps_ent]
  have k1 : Kept (fun c => c = Cl.dir ∨ c = .sys) o (upd o n (some .dir)) g (upd g n (some (.cells ((List.replicate c.lines.toNat zeroEnt).map encEnt).flatten .exact))) := Kept.new hno hn (.inl rfl) _
  have L1 := hL.new n Cl.dir (.cells ((List.replicate c.lines.toNat zeroEnt).map encEnt).flatten .exact)
  have hdl : ((List.replicate c.lines.toNat zeroEnt).map encEnt).flatten = ((List.replicate 0 emptyEnt ++ List.replicate (c.lines.toNat - 0) zeroEnt).map encEnt).flatten := rfl
  have hne : n ≠ l := ne_of_live hg hn
  have x1 : upd g n (some (.cells ((List.replicate c.lines.toNat zeroEnt).map encEnt).flatten .exact)) n = some (.cells ((List.replicate c.lines.toNat zeroEnt).map encEnt).flatten .exact) := upd_same _ _ _
  have y1 : upd g n (some (.cells ((List.replicate c.lines.toNat zeroEnt).map encEnt).flatten .exact)) l = _ := (upd_ne _ _ (fun e => hne e.symm)).trans hg
  have o1 : upd o n (some Cl.dir) n = some .dir := upd_same _ _ _
  have ol1 : upd o n (some Cl.dir) l = some .sys := by rw [upd_ne _ _ (fun e => hne e.symm)]; exact ho
  have hq0 := hq
  have hne2 : ∀ {i : Nat} {c : Cl}, o i = some c → i ≠ n := fun {i c} h e => by rw [e, hno] at h; cases h
  generalize upd g n (some (.cells ((List.replicate c.lines.toNat zeroEnt).map encEnt).flatten .exact)) = g1 at k1 L1 x1 y1 ⊢
  generalize upd o n (some Cl.dir) = oo at k1 L1 o1 ol1 ⊢
  refine kSt_of y1 rfl (by simp [encC]) rfl ?_
  have e2 : (encC c ++ [Value.slice (some ⟨ln, 0, none⟩) nodes.length nodes.length, vd, ptr lq 0, .int .i64 st]).set (0 + 8) (.slice (some ⟨n, 0, none⟩) c.lines.toNat c.lines.toNat) = encC c ++ [Value.slice (some ⟨ln, 0, none⟩) nodes.length nodes.length, .slice (some ⟨n, 0, none⟩) c.lines.toNat c.lines.toNat, ptr lq 0, .int .i64 st] := rfl
  rw [e2]
  have k2 := k1.trans (Kept.upd (t := (fun c => c = Cl.dir ∨ c = .sys)) ol1 (.inr rfl) (g := g1) (some (.cells (encC c ++ [Value.slice (some ⟨ln, 0, none⟩) nodes.length nodes.length, .slice (some ⟨n, 0, none⟩) c.lines.toNat c.lines.toNat, ptr lq 0, .int .i64 st]) .exact)))
  have L2 := L1.upd l (.cells (encC c ++ [Value.slice (some ⟨ln, 0, none⟩) nodes.length nodes.length, .slice (some ⟨n, 0, none⟩) c.lines.toNat c.lines.toNat, ptr lq 0, .int .i64 st]) .exact)
  have x2 := (upd_ne g1 (some (.cells (encC c ++ [Value.slice (some ⟨ln, 0, none⟩) nodes.length nodes.length, .slice (some ⟨n, 0, none⟩) c.lines.toNat c.lines.toNat, ptr lq 0, .int .i64 st]) .exact)) hne).trans x1
  have y2 : upd g1 l (some (.cells (encC c ++ [Value.slice (some ⟨ln, 0, none⟩) nodes.length nodes.length, .slice (some ⟨n, 0, none⟩) c.lines.toNat c.lines.toNat, ptr lq 0, .int .i64 st]) .exact)) l = _ := upd_same _ _ _
  generalize upd g1 l (some (.cells (encC c ++ [Value.slice (some ⟨ln, 0, none⟩) nodes.length nodes.length, .slice (some ⟨n, 0, none⟩) c.lines.toNat c.lines.toNat, ptr lq 0, .int .i64 st]) .exact)) = g2 at k2 L2 x2 y2 ⊢
  refine kLd_of y2 (show (encC c ++ _)[0 + 8]? = some (.slice (some ⟨n, 0, none⟩) c.lines.toNat c.lines.toNat) from rfl) ?_
  simp only [kLen_s]
  refine lfp_ind (m := c.lines.toNat) (Inv := fun q t g9 n9 => ∃ (j : Nat), q + j = c.lines.toNat ∧ Kept (· = Cl.dir) oo oo g2 g9 ∧ Live oo g9 ∧ g9 n = some (.cells ((List.replicate j emptyEnt ++ List.replicate (c.lines.toNat - j) zeroEnt).map encEnt).flatten .exact) ∧ t 0 = ptr l 0 ∧ t 56 = .int .i64 c.lines.toNat ∧ t 57 = .int .i64 (j : Nat)) ?_
    ⟨0, by omega, Kept.refl _ _ _, L2, x2, t0, rfl, rfl⟩
  rintro I m t9 g9 n9 ih ⟨j, hj, k9, L9, x9, t0', t56, t57⟩
  simp only [mesi_System_begin_l3, t0', t56, t57, kBin_lss, kNil_p, kPtr_p]
  by_cases hj' : j < c.lines.toNat
  · refine kSplit_t (decide_eq_true (by omega)) ?_
    have y9 := (k9.col _ _ ol1 (by simp)).2.trans y2
    refine kLd_of y9 (show (encC c ++ _)[0 + 8]? = some (.slice (some ⟨n, 0, none⟩) c.lines.toNat c.lines.toNat) from rfl) ?_
    refine Empty_spec (fun n10 => ⟨rfl, kIndexAddr_s (by omega) (by omega) ?_⟩)
    simp only [kPtr_p, kAgg_a]
    refine ⟨encEnt_len _, ?_⟩
    rw [Int.toNat_natCast, Nat.zero_add]
    have hset : (List.replicate j emptyEnt ++ List.replicate (c.lines.toNat - j) zeroEnt).set j emptyEnt = List.replicate (j + 1) emptyEnt ++ List.replicate (c.lines.toNat - (j + 1)) zeroEnt := by
      rw [List.set_append_right _ _ (by simp), List.length_replicate, Nat.sub_self]
      obtain ⟨r, hr⟩ : ∃ r, c.lines.toNat - j = r + 1 := ⟨c.lines.toNat - j - 1, by omega⟩
      rw [hr, show c.lines.toNat - (j + 1) = r by omega, List.replicate_succ, List.set_cons_zero, List.replicate_succ', List.append_assoc]; rfl
    refine Blk1.stN (bk := .exact) encEnt_len (fun x => encEnt_cell x) (show Blk1 encEnt g9 n _ .exact from x9) rfl (by simp; omega) (fun hx => ?_)
    rw [hset] at hx ⊢
    rw [kBin_add, wrap64_of (by omega) (by omega), show ((j : Nat) : Int) + 1 = ((j + 1 : Nat) : Int) by omega]
    refine ih (m - 1) _ _ _ (by omega) ⟨j + 1, by omega, k9.trans (Kept.upd (t := (· = Cl.dir)) o1 rfl _), L9.upd _ _, hx, t0', t56, rfl⟩
  · refine kSplit_f (decide_eq_false (by omega)) ?_
    obtain rfl : j = c.lines.toNat := by omega
    rw [Nat.sub_self, List.replicate_zero, List.append_nil] at x9
    have k3 : Kept (fun c => c = Cl.dir ∨ c = .sys) o oo g g9 := k2.trans (k9.mono (fun c h => .inl h))
    refine aRet_of (Sub.refl _) (hK oo g9 n9 ⟨ln, n, lq, le, lm, v, st, ns⟩ k3.unc ⟨L9, ol1, ?_, (k3.col _ _ hon (by simp)).1, (k3.col _ _ hon (by simp)).2.trans hgn, hlen, fun i x N a b => (hN i x N a b).kept k3 (by simp) (by simp) (by simp) (by simp), o1, x9, hq.kept k3 (by simp) (by simp), hD.kept k3 (by simp) (by simp)⟩)
    rw [(k9.col _ _ ol1 (by simp)).2.trans y2]
    unfold sysC
    simp
end
end Go.Proofs.YtjpckcikmfihlaaGreat.Gen

namespace Go.Proofs.YtjpckcikmfihlaaGreat.Gen
open Go Go.Proofs.YtjpckcikmfihlaaGreat.Abs Go.RowKit
variable {g : G} {n : Nat}
def newNV (lg la ls : Nat) : NV := ⟨lg, la, ls, .slice none 0 0, .slice none 0 0, .slice none 0 0⟩
def isBegin (c : Cl) : Prop := (∃ i, c = .ag i) ∨ c = .nodes ∨ c = .sys
section
variable {o : Col Cl} {l : Nat} {K : Cont}
theorem begin_spec {c : Cfg} (hc : c.good) {vn vd v : Value} {st : Int} {lq le lm : Nat} {q : List En} {D : Dev} (hL : Live o g) (ho : o l = some .sys)
    (hg : g l = some (.cells (encC c ++ [vn, vd, ptr lq 0, .int .i64 st]) .exact)) (hq : QuH o g lq le c.queue v q) (hD : DevH o g le lm D)
    (hK : ∀ o' g' n' W', Sub (unc o g) (unc o' g') → SysH o' g' l W' ⟨c, List.replicate c.cores.toNat (nd0 c), List.replicate c.lines.toNat emptyEnt, q, D⟩ → K (.tuple #[]) g' n') : AC mesi_System_begin_id [ptr l 0] g n K := by
  have hcores := hc.cores
  refine ACalls.fold X0_mono ?_
  rw [← mesi_System_begin_eq]
  simp only [mesi_System_begin, kNil_p, kPtr_p]
  refine kLd_of hg (show (encC c ++ _)[0 + 0 + 0]? = some (.int .i64 c.cores) from rfl) ?_
  refine ⟨by omega, Int.le_refl _, by omega, by omega, ?_⟩
  intro hn
  have hno := hL.fresh hn
  rw [reps_none]
  have nt : ¬ isBegin .que ∧ ¬ isBegin .ent ∧ ¬ isBegin .dev ∧ ¬ isBegin .mem := by simp [isBegin]
  have k1 : Kept isBegin o (upd o n (some .nodes)) g (upd g n (some (.cells ((List.replicate c.cores.toNat (none : Option NV)).map encNo).flatten .exact))) := Kept.new hno hn (.inr (.inl rfl)) _
  have L1 := hL.new n Cl.nodes (.cells ((List.replicate c.cores.toNat (none : Option NV)).map encNo).flatten .exact)
  have hne : n ≠ l := ne_of_live hg hn
  have x1 : upd g n (some (.cells ((List.replicate c.cores.toNat (none : Option NV)).map encNo).flatten .exact)) n = some (.cells ((List.replicate c.cores.toNat (none : Option NV)).map encNo).flatten .exact) := upd_same _ _ _
  have y1 : upd g n (some (.cells ((List.replicate c.cores.toNat (none : Option NV)).map encNo).flatten .exact)) l = _ := (upd_ne _ _ (fun e => hne e.symm)).trans hg
  have o1 : upd o n (some Cl.nodes) n = some .nodes := upd_same _ _ _
  have ol1 : upd o n (some Cl.nodes) l = some .sys := by rw [upd_ne _ _ (fun e => hne e.symm)]; exact ho
  generalize upd g n (some (.cells ((List.replicate c.cores.toNat (none : Option NV)).map encNo).flatten .exact)) = g1 at k1 L1 x1 y1 ⊢
  generalize upd o n (some Cl.nodes) = oo at k1 L1 o1 ol1 ⊢
  refine kSt_of y1 rfl (by simp [encC]) rfl ?_
  have e2 : (encC c ++ [vn, vd, ptr lq 0, .int .i64 st]).set (0 + 7) (.slice (some ⟨n, 0, none⟩) c.cores.toNat c.cores.toNat) = encC c ++ [Value.slice (some ⟨n, 0, none⟩) c.cores.toNat c.cores.toNat, vd, ptr lq 0, .int .i64 st] := rfl
  rw [e2]
  have k2 := k1.trans (Kept.upd (t := isBegin) ol1 (.inr (.inr rfl)) (g := g1) (some (.cells (encC c ++ [Value.slice (some ⟨n, 0, none⟩) c.cores.toNat c.cores.toNat, vd, ptr lq 0, .int .i64 st]) .exact)))
  have L2 := L1.upd l (.cells (encC c ++ [Value.slice (some ⟨n, 0, none⟩) c.cores.toNat c.cores.toNat, vd, ptr lq 0, .int .i64 st]) .exact)
  have x2 := (upd_ne g1 (some (.cells (encC c ++ [Value.slice (some ⟨n, 0, none⟩) c.cores.toNat c.cores.toNat, vd, ptr lq 0, .int .i64 st]) .exact)) hne).trans x1
  have y2 : upd g1 l (some (.cells (encC c ++ [Value.slice (some ⟨n, 0, none⟩) c.cores.toNat c.cores.toNat, vd, ptr lq 0, .int .i64 st]) .exact)) l = _ := upd_same _ _ _
  generalize upd g1 l (some (.cells (encC c ++ [Value.slice (some ⟨n, 0, none⟩) c.cores.toNat c.cores.toNat, vd, ptr lq 0, .int .i64 st]) .exact)) = g2 at k2 L2 x2 y2 ⊢
  refine kLd_of y2 (show (encC c ++ _)[0 + 7]? = some (.slice (some ⟨n, 0, none⟩) c.cores.toNat c.cores.toNat) from rfl) ?_
  simp only [kLen_s]
  refine lfp_ind (m := c.cores.toNat) (Inv := fun q t g9 n9 => ∃ (j : Nat) (o9 : Col Cl) (done : List NV), q + j = c.cores.toNat ∧ done.length = j ∧ Kept (fun c => (∃ i, c = .ag i) ∨ c = Cl.nodes) oo o9 g2 g9 ∧ Live o9 g9 ∧ o9 n = some .nodes ∧ g9 n = some (.cells ((done.map some ++ List.replicate (c.cores.toNat - j) (none : Option NV)).map encNo).flatten .exact) ∧ (∀ (i : Nat) x, done[i]? = some x → NodeH o9 g9 i x (nd0 c)) ∧ t 0 = ptr l 0 ∧ t 17 = .int .i64 c.cores.toNat ∧ t 18 = .int .i64 (j : Nat)) ?_
    ⟨0, oo, [], by omega, rfl, Kept.refl _ _ _, L2, o1, x2, (fun i x h => (by cases h)), rfl, rfl, rfl⟩
  rintro I m t9 g9 n9 ih ⟨j, o9, done, hj, hd, k9, L9, on9, x9, hdone, t0', t17, t18⟩
  have ol9 := (k9.col _ _ ol1 (by simp)).1
  have y9 := (k9.col _ _ ol1 (by simp)).2.trans y2
  simp only [mesi_System_begin_l1, t0', t17, t18, kBin_lss, kNil_p, kPtr_p]
  by_cases hj' : j < c.cores.toNat
  · refine kSplit_t (decide_eq_true (by omega)) ?_
    refine kLd_of y9 (show (encC c ++ _)[0 + 7]? = some (.slice (some ⟨n, 0, none⟩) c.cores.toNat c.cores.toNat) from rfl) ?_
    refine kLd_of y9 (show (encC c ++ _)[0 + 0 + 3]? = some (.int .i64 c.sets) from rfl) ?_
    refine kLd_of y9 (show (encC c ++ _)[0 + 0 + 4]? = some (.int .i64 c.ways) from rfl) ?_
    refine AgNew_spec ⟨hc.sets, hc.ways⟩ (fun lg la ls g10 n10 s10 fg fa fs hA => ?_)
    refine ⟨(s10.live y9).trans y9.symm, ?_⟩
    simp only [kExtract_t, kGet_zero, kGet_succ]
    refine kIndexAddr_s (by omega) (by omega) ?_
    simp only [kPtr_p]
    rw [Int.toNat_natCast, Nat.zero_add, Nat.add_zero]
    -- colours for the new agent
    have kp : Kept (· = Cl.ag j) o9 (upd (upd (upd o9 lg (some (.ag j))) la (some (.ag j))) ls (some (.ag j))) g9 g10 := by
      refine Kept_paint L9 s10 (fun i => ?_)
      by_cases h1 : i = ls
      · subst h1; exact .inr ⟨fs, _, rfl, upd_same _ _ _⟩
      by_cases h2 : i = la
      · subst h2; exact .inr ⟨fa, _, rfl, by rw [upd_ne _ _ h1, upd_same]⟩
      by_cases h3 : i = lg
      · subst h3; exact .inr ⟨fg, _, rfl, by rw [upd_ne _ _ h1, upd_ne _ _ h2, upd_same]⟩
      · exact .inl (by rw [upd_ne _ _ h1, upd_ne _ _ h2, upd_ne _ _ h3])
    have Lp : Live (upd (upd (upd o9 lg (some (.ag j))) la (some (.ag j))) ls (some (.ag j))) g10 := by
      intro i cc hi
      by_cases h1 : i = ls
      · subst h1; exact ⟨_, hA.arr.row⟩
      by_cases h2 : i = la
      · subst h2; exact ⟨_, hA.arr.obj⟩
      by_cases h3 : i = lg
      · subst h3; exact ⟨_, hA.obj⟩
      · rw [upd_ne _ _ h1, upd_ne _ _ h2, upd_ne _ _ h3] at hi
        obtain ⟨b, hb⟩ := L9 i cc hi
        exact ⟨b, s10.live hb⟩
    have og : upd (upd (upd o9 lg (some (Cl.ag j))) la (some (.ag j))) ls (some (.ag j)) lg = some (.ag j) := by
      rw [upd_ne _ _ hA.n2, upd_ne _ _ hA.n1, upd_same]
    have oa : upd (upd (upd o9 lg (some (Cl.ag j))) la (some (.ag j))) ls (some (.ag j)) la = some (.ag j) := by
      rw [upd_ne _ _ hA.arr.ne, upd_same]
    have os : upd (upd (upd o9 lg (some (Cl.ag j))) la (some (.ag j))) ls (some (.ag j)) ls = some (.ag j) := upd_same _ _ _
    generalize upd (upd (upd o9 lg (some (Cl.ag j))) la (some (.ag j))) ls (some (.ag j)) = op at kp Lp og oa os
    have onp := (kp.col _ _ on9 (by simp)).1
    have xp := (kp.col _ _ on9 (by simp)).2.trans x9
    have hset : (done.map some ++ List.replicate (c.cores.toNat - j) (none : Option NV)).set j (some (newNV lg la ls)) = (done ++ [(newNV lg la ls)]).map some ++ List.replicate (c.cores.toNat - (j + 1)) none := by
      rw [List.set_append_right _ _ (by simp [hd]), List.length_map, hd, Nat.sub_self]
      obtain ⟨r, hr⟩ : ∃ r, c.cores.toNat - j = r + 1 := ⟨c.cores.toNat - j - 1, by omega⟩
      rw [hr, show c.cores.toNat - (j + 1) = r by omega, List.replicate_succ, List.set_cons_zero]
      simp
    have hget : (done.map some ++ List.replicate (c.cores.toNat - j) (none : Option NV))[j]? = some none := by
      rw [List.getElem?_append_right (by simp [hd]), List.length_map, hd, Nat.sub_self]
      obtain ⟨r, hr⟩ : ∃ r, c.cores.toNat - j = r + 1 := ⟨c.cores.toNat - j - 1, by omega⟩
      rw [hr]; rfl
    refine kSt_of xp rfl ?_ rfl ?_
    · rw [flat_len encNo 4 encNo_len]; simp [hd]; omega
    have hs4 := flat_setk (enc := encNo) encNo_len (k := 0) (by decide) (show encNo (some (newNV lg la ls)) = (encNo none).set 0 (ptr lg 0) from rfl) hget
    rw [Nat.add_zero] at hs4
    rw [hs4, hset]
    have kq : Kept (· = Cl.nodes) op op g10 (upd g10 n (some (.cells (((done ++ [(newNV lg la ls)]).map some ++ List.replicate (c.cores.toNat - (j + 1)) (none : Option NV)).map encNo).flatten .exact))) := Kept.upd (t := (· = Cl.nodes)) onp rfl _
    have Lq := Lp.upd n (.cells (((done ++ [(newNV lg la ls)]).map some ++ List.replicate (c.cores.toNat - (j + 1)) (none : Option NV)).map encNo).flatten .exact)
    have xq : upd g10 n (some (.cells (((done ++ [(newNV lg la ls)]).map some ++ List.replicate (c.cores.toNat - (j + 1)) (none : Option NV)).map encNo).flatten .exact)) n = _ := upd_same _ _ _
    generalize upd g10 n (some (.cells (((done ++ [(newNV lg la ls)]).map some ++ List.replicate (c.cores.toNat - (j + 1)) (none : Option NV)).map encNo).flatten .exact)) = g11 at kq Lq xq ⊢
    rw [kBin_add, wrap64_of (by omega) (by omega), show ((j : Nat) : Int) + 1 = ((j + 1 : Nat) : Int) by omega]
    refine ih (m - 1) _ _ _ (by omega) ⟨j + 1, op, done ++ [(newNV lg la ls)], by omega, by simp [hd], (k9.trans (kp.mono (fun c h => .inl ⟨j, h⟩))).trans (kq.mono (fun c h => .inr h)), Lq, onp, xq, ?_, t0', t17, rfl⟩
    intro i x hx
    rcases Nat.lt_or_ge i j with hi | hi
    · rw [List.getElem?_append_left (by omega)] at hx
      refine ((hdone i x hx).kept kp ?_ (by simp) (by simp) (by simp)).kept kq (by simp) (by simp) (by simp) (by simp)
      intro e; cases e; omega
    · rw [List.getElem?_append_right (by omega), hd] at hx
      obtain rfl : i = j := by
        rcases Nat.eq_or_lt_of_le hi with e | e
        · exact e.symm
        · rw [List.getElem?_eq_none (by simp; omega)] at hx; cases hx
      rw [Nat.sub_self] at hx
      cases hx
      have e1 := fun (b : Nat) (cc : Cl) (h : op b = some cc) (h' : cc ≠ .nodes) => (kq.col b cc h h').2
      exact ⟨og, oa, os, hA.of_eq (e1 _ _ og (by simp)) (e1 _ _ oa (by simp)) (e1 _ _ os (by simp)), .inl ⟨rfl, rfl⟩, .inl ⟨rfl, rfl⟩, .inl ⟨rfl, rfl⟩⟩
  · refine kSplit_f (decide_eq_false (by omega)) ?_
    obtain rfl : j = c.cores.toNat := by omega
    rw [Nat.sub_self, List.replicate_zero, List.append_nil, some_encNo] at x9
    have k3 : Kept isBegin o o9 g g9 := k2.trans (k9.mono (fun c h => h.elim .inl (fun h => .inr (.inl h))))
    have rl : (List.replicate c.cores.toNat (nd0 c)).length = c.cores.toNat := by simp
    refine begin_j2 (nodes := List.replicate c.cores.toNat (nd0 c)) (ns := done) hc (by exact t0') L9 ol9 (by rw [rl]; exact y9) (hq.kept k3 nt.1 nt.2.1) (hD.kept k3 nt.2.2.1 nt.2.2.2) on9 x9 (by rw [rl]; exact hd) ?_ (fun o' g' n' W' u' h' => hK o' g' n' W' (k3.unc.trans u') h')
    · intro i x N hx hN
      have : N = nd0 c := by
        obtain ⟨_, h⟩ := List.getElem?_eq_some_iff.1 hN
        rw [List.getElem_replicate] at h; exact h.symm
      subst this
      exact hdone i x hx
end
end Go.Proofs.YtjpckcikmfihlaaGreat.Gen

namespace Go.Proofs.YtjpckcikmfihlaaGreat.Gen
open Go Go.Proofs.YtjpckcikmfihlaaGreat.Abs Go.RowKit
variable {g : G} {n : Nat}
theorem kBin_s_nil {K : Value → Prop} : kBin .slice .eql (.slice none 0 0) (.slice none 0 0) K = K (.bool true) := rfl
theorem Clone_Msg_spec {v : Value} {xs : List Ms} (hv : v = .slice none 0 0 ∨ ∃ l o m c, v = .slice (some ⟨l, o, none⟩) m c) (h : Sl encM 12 g v xs) (hlen : xs.length < 1000000) {K : Cont}
    (hK : ∀ v' g' n', Sub g g' → OwnS encM 12 g g' v' xs → K v' g' n') : AC slices_Clone_api_Msg_api_Msg_id [v] g n K := by
  refine ACalls.fold X0_mono ?_
  rw [← slices_Clone_api_Msg_api_Msg_eq]
  simp only [slices_Clone_api_Msg_api_Msg]
  rcases hv with rfl | ⟨l, o, m, c, rfl⟩
  · have hx : xs = [] := by
      obtain ⟨a, cc, e, _⟩ := h
      have := congrArg (fun v => match v with | .slice _ m _ => m | _ => 0) e
      exact List.eq_nil_of_length_eq_zero this.symm
    subst hx
    rw [kBin_s_nil]
    exact kSplit_t rfl (aRet_of (Sub.refl _) (hK _ _ _ (Sub.refl _) OwnS.nil))
  rw [kBin_s_eql]
  refine kSplit_f rfl ?_
  simp only [kFill_nil]
  intro hn
  have hs := (Sub.refl g).new hn (some (.cells (reps 0 [.int .i64 0, .int .i64 0, .bool false, .bool false, .int .u64 0, .int .u64 0, .int .u64 0, .int .u64 0, .int .u64 0, .int .u64 0, .int .u64 0, .int .u64 0]) .exact))
  refine OwnS.append (g0 := g) (xs := ([] : List Ms)) OwnS.empty hs (h.mono hs) encM_cell (by decide) (by simp; omega) (by simp; omega) (fun v' g' n' hs' ho' _ _ => aRet_of (Sub.refl _) (hK _ _ _ hs' ?_))
  simpa using ho'
theorem QV_form {α : Type} {enc : α → List Value} {z : Nat} {o : Col Cl} {c : Cl} {v : Value} {xs : List α} (h : QV enc z o c g v xs) : v = .slice none 0 0 ∨ ∃ l o m c, v = .slice (some ⟨l, o, none⟩) m c := by
  rcases h with ⟨rfl, _⟩ | ⟨l, off, cs, rfl, _⟩
  · exact .inl rfl
  · exact .inr ⟨_, _, _, _, rfl⟩
theorem All_spec {l off : Nat} {cs : List Value} {bk : BK} {v : Value} {ms : List Ms} (hg : g l = some (.cells cs bk)) (hv : cs[off]? = some v) (hf : v = .slice none 0 0 ∨ ∃ l o m c, v = .slice (some ⟨l, o, none⟩) m c) (hs : Sl encM 12 g v ms) (hlen : ms.length < 1000000) {K : Cont}
    (hK : ∀ v' g' n', Sub g g' → OwnS encM 12 g g' v' ms → K v' g' n') : AC msg_Queue_All_id [ptr l off] g n K := by
  refine ACalls.fold X0_mono ?_
  rw [← msg_Queue_All_eq]
  simp only [msg_Queue_All]
  refine wNilQ (kSp_b (fun h => nomatch h) (fun _ => ?_))
  simp only [kNil_p, kPtr_p]
  refine kLd_of hg (by simpa using hv) (Clone_Msg_spec hf hs hlen (fun v' g' n' a b => aRet_of (Sub.refl _) (hK _ _ _ a b)))
def Sys.fail (S : Sys) : Sys := ⟨S.c, List.replicate S.c.cores.toNat (nd0 S.c), List.replicate S.c.lines.toNat emptyEnt, [], (S.D.puts S.q).fail⟩
def Sys.entry (S : Sys) (line : Int) : Ent := match S.ent line with | none => emptyEnt | some (_, e) => e
def Sys.queues (S : Sys) (core : Int) : List Ms × List Ms × List Ms := match S.at core with | none => ([], [], []) | some (_, N) => (N.up, N.ans, N.dn)
def Sys.slots (S : Sys) (core : Int) : List St := match S.at core with | none => [] | some (_, N) => N.A.slots
section
variable {o : Col Cl} {l : Nat} {W : SysW} {S : Sys} {K : Cont}
theorem SFail_spec (h : SysH o g l W S) (hs : S.shp) (hc : S.c.good)
    (hK : ∀ o' g' n' W', Sub (unc o g) (unc o' g') → SysH o' g' l W' S.fail → K (.tuple #[]) g' n') : AC mesi_System_Fail_id [ptr l 0] g n K := by
  refine ACalls.fold X0_mono ?_
  rw [← mesi_System_Fail_eq]
  simp only [mesi_System_Fail, kNil_p, kPtr_p]
  refine wNilP (kSp_b (fun _ => ?_) (fun h => nomatch h))
  refine h.lds (sysC_get (i := 2)) ?_
  refine WFail_spec h.live h.que h.dev ⟨hs.vol.1, hs.vol.2, hs.h64⟩ (by have := hs.q; omega) (fun v' g2 n2 k2 L2 q2 d2 => ?_)
  have h2 := h.memo k2 L2 q2 d2
  refine begin_spec hc h2.live h2.osys (h2.hsys) h2.que h2.dev (fun o3 g3 n3 W3 u3 h3 => ?_)
  exact aRet_of (Sub.refl _) (hK _ _ _ _ (k2.unc.trans u3) h3)
theorem SEntry_spec (h : SysH o g l W S) (line : Int) (hK : ∀ g' n', Sub g g' → K (.agg (encEnt (S.entry line)).toArray) g' n') : AC mesi_System_Entry_id [ptr l 0, .int .i64 line] g n K := by
  refine ACalls.fold X0_mono ?_
  rw [← mesi_System_Entry_eq]
  simp only [mesi_System_Entry, kNil_p, kPtr_p, zEnt]
  intro hn
  have s1 := (Sub.refl g).new hn (some (.cells (encEnt zeroEnt) .exact))
  have x1 : upd g n (some (.cells (encEnt zeroEnt) .exact)) n = some (.cells (encEnt zeroEnt) .exact) := upd_same _ _ _
  have h1 := h.mono s1
  generalize upd g n (some (.cells (encEnt zeroEnt) .exact)) = g1 at s1 x1 h1 ⊢
  refine sline_spec h1 line (fun n1 => wNot (kSp_b (fun a => ?_) (fun a => ?_)))
  · have e : S.entry line = emptyEnt := by unfold Sys.entry; rw [Sys.line_f (by simpa using a)]
    rw [e] at hK
    refine Empty_spec (fun n2 => ?_)
    simp only [kAgg_a]
    exact stEn x1 (ldEn (upd_same _ _ _) (aRet_of (Sub.refl _) (hK _ _ (s1.upd_fresh _ hn))))
  · obtain ⟨i, e, rfl, hi, he⟩ := Sys.line_t (by simpa using a)
    have ee : S.entry (i : Nat) = e := by unfold Sys.entry; rw [he]
    rw [ee] at hK
    refine h1.lds (sysC_get (i := 1)) (h1.idxE hi ?_)
    simp only [kPtr_p, kAgg_a]
    refine h1.ldE hi (stEn x1 (ldEn (upd_same _ _ _) (aRet_of (Sub.refl _) (hK _ _ (s1.upd_fresh _ hn)))))
theorem SSlots_spec (h : SysH o g l W S) (hf : S.fit) (core : Int) (hK : ∀ v' g' n' W', Sub (unc o g) (unc o g') → SysH o g' l W' S → Sl encS 11 g' v' (S.slots core) → K v' g' n') : AC mesi_System_Slots_id [ptr l 0, .int .i64 core] g n K := by
  refine ACalls.fold X0_mono ?_
  rw [← mesi_System_Slots_eq]
  simp only [mesi_System_Slots]
  refine sat_spec h core (fun ha n1 => ?_) (fun i N ha hc hN x hx g1 n1 st s1 h1 => ?_)
  · have e : S.slots core = [] := by unfold Sys.slots; rw [ha]
    rw [e] at hK
    exact aRet_of (Sub.refl _) (hK _ _ _ _ (Sub.refl _) h Sl.nil)
  have e : S.slots core = N.A.slots := by unfold Sys.slots; rw [ha]
  rw [e] at hK
  refine wNilQ (kSp_b (fun h => nomatch h) (fun _ => ?_))
  simp only [kNil_p, kPtr_p]
  refine kLd_of h1.hnodes ((ns_get hx (by decide)).trans (show (encN x)[0]? = some (ptr x.lg 0) from rfl)) ?_
  refine AgSlots_spec (hf i N hN).1 (h1.node i x N hx hN).ag (fun v' g' n' s2 sl => ?_)
  exact aRet_of (Sub.refl _) (hK _ _ _ _ (s1.trans (Sub.uncs h1.live s2)) (h1.mono s2) sl)
theorem SQueues_spec (h : SysH o g l W S) (hlen : ∀ (i : Nat) N, S.nodes[i]? = some N → N.up.length < 1000000 ∧ N.ans.length < 1000000 ∧ N.dn.length < 1000000) (core : Int)
    (hK : ∀ v1 v2 v3 g' n' W', Sub (unc o g) (unc o g') → SysH o g' l W' S → Sl encM 12 (unc o g') v1 (S.queues core).1 → Sl encM 12 (unc o g') v2 (S.queues core).2.1 → Sl encM 12 (unc o g') v3 (S.queues core).2.2 → K (.tuple #[v1, v2, v3]) g' n') :
    AC mesi_System_Queues_id [ptr l 0, .int .i64 core] g n K := by
  refine ACalls.fold X0_mono ?_
  rw [← mesi_System_Queues_eq]
  simp only [mesi_System_Queues]
  refine sat_spec h core (fun ha n1 => ?_) (fun i N ha hc hN x hx g1 n1 st s1 h1 => ?_)
  · have e : S.queues core = ([], [], []) := by unfold Sys.queues; rw [ha]
    rw [e] at hK
    exact aRet_of (Sub.refl _) (hK _ _ _ _ _ _ (Sub.refl _) h Sl.nil Sl.nil Sl.nil)
  have e : S.queues core = (N.up, N.ans, N.dn) := by unfold Sys.queues; rw [ha]
  rw [e] at hK
  refine wNilQ (kSp_b (fun h => nomatch h) (fun _ => ?_))
  simp only [kNil_p, kPtr_p]
  have hn1 := h1.node i x N hx hN
  refine All_spec h1.hnodes ((ns_get hx (by decide)).trans (show (encN x)[1]? = some x.vu from rfl)) (QV_form hn1.up) (hn1.up.sl encM_len) (hlen i N hN).1 (fun v1 g2 n2 s2 o2 => ?_)
  have h2 := h1.mono s2
  have hn2 := h2.node i x N hx hN
  refine All_spec h2.hnodes ((ns_get hx (by decide)).trans (show (encN x)[2]? = some x.va from rfl)) (QV_form hn2.ans) (hn2.ans.sl encM_len) (hlen i N hN).2.1 (fun v2 g3 n3 s3 o3 => ?_)
  have h3 := h2.mono s3
  have hn3 := h3.node i x N hx hN
  refine All_spec h3.hnodes ((ns_get hx (by decide)).trans (show (encN x)[3]? = some x.vd from rfl)) (QV_form hn3.dn) (hn3.dn.sl encM_len) (hlen i N hN).2.2 (fun v3 g4 n4 s4 o4 => ?_)
  have h4 := h3.mono s4
  exact aRet_of (Sub.refl _) (hK _ _ _ _ _ _ (((s1.trans (Sub.uncs h1.live s2)).trans (Sub.uncs h2.live s3)).trans (Sub.uncs h3.live s4)) h4 (((OwnS_unc h1.live o2).mono (Sub.uncs h2.live s3)).mono (Sub.uncs h3.live s4)) ((OwnS_unc h2.live o3).mono (Sub.uncs h3.live s4)) (OwnS_unc h3.live o4))
theorem SWaiting_spec (h : SysH o g l W S) (hs : S.shp) (hK : ∀ v' g' n', Sub g g' → OwnS encI 1 g g' v' (S.q.map (·.line)) → K v' g' n') : AC mesi_System_Waiting_id [ptr l 0] g n K := by
  refine ACalls.fold X0_mono ?_
  rw [← mesi_System_Waiting_eq]
  simp only [mesi_System_Waiting, kNil_p, kPtr_p]
  refine wNilQ (kSp_b (fun h => nomatch h) (fun _ => ?_))
  refine h.lds (sysC_get (i := 2)) (WLines_spec h.que (by have := hs.q; omega) (fun v' g' n' a b => aRet_of (Sub.refl _) (hK _ _ _ a b)))
theorem SMemory_spec (h : SysH o g l W S) (hs : S.shp) (hr : inR S.q S.D.mem.length) (hK : ∀ v' g' n', Sub g g' → OwnS encL 8 g g' v' (over S.q S.D.mem) → K v' g' n') : AC mesi_System_Memory_id [ptr l 0] g n K := by
  refine ACalls.fold X0_mono ?_
  rw [← mesi_System_Memory_eq]
  simp only [mesi_System_Memory, kNil_p, kPtr_p]
  refine wNilQ (kSp_b (fun h => nomatch h) (fun _ => ?_))
  have hv := hs.vol
  refine h.lds (sysC_get (i := 2)) (WImage_spec h.que h.dev (by intro e; rw [e] at hv; simp at hv) hs.h64 hr (by have := hs.q; omega) (fun lb g' n' a b c => aRet_of (Sub.refl _) (hK _ _ _ a ?_)))
  have ol := over_len S.q S.D.mem
  refine .inr ⟨lb, LC + 8, .loose 8, by rw [ol], c, b, ?_, .inr ⟨rfl, rfl⟩⟩
  rw [flat_len encL 8 encL_len]
theorem SConfig_spec (h : SysH o g l W S) (hK : ∀ g' n', Sub g g' → K (.agg (encC S.c).toArray) g' n') : AC mesi_System_Config_id [ptr l 0] g n K := by
  refine ACalls.fold X0_mono ?_
  rw [← mesi_System_Config_eq]
  simp only [mesi_System_Config, kNil_p, kPtr_p]
  intro hn
  have s1 := (Sub.refl g).new hn (some (.cells (encC ⟨0, 0, 0, 0, 0, 0, 0⟩) .exact))
  have x1 : upd g n (some (.cells (encC ⟨0, 0, 0, 0, 0, 0, 0⟩) .exact)) n = some (.cells (encC ⟨0, 0, 0, 0, 0, 0, 0⟩) .exact) := upd_same _ _ _
  have h1 := h.mono s1
  refine wNilQ (kSp_b (fun h => nomatch h) (fun _ => ?_))
  refine kLdN_of h1.hsys (by simp [sysC, encC]) ?_
  rw [show ((sysC W S).drop (0 + 0)).take 7 = encC S.c from rfl]
  simp only [kAgg_a]
  refine ⟨rfl, kStN_of x1 rfl (by simp [encC]) (by intro v hv; simp [encC] at hv; rcases hv with rfl | rfl | rfl | rfl | rfl | rfl | rfl <;> rfl) ?_⟩
  rw [show splice (encC ⟨0, 0, 0, 0, 0, 0, 0⟩) 0 (encC S.c) = encC S.c from rfl]
  refine kLdN_of (upd_same _ _ _) (by simp [encC]) ?_
  rw [show ((encC S.c).drop 0).take 7 = encC S.c from rfl]
  exact aRet_of (Sub.refl _) (hK _ _ (s1.upd_fresh _ hn))
end
end Go.Proofs.YtjpckcikmfihlaaGreat.Gen

namespace Go.Proofs.YtjpckcikmfihlaaGreat.Gen
open Go Go.Proofs.YtjpckcikmfihlaaGreat.Abs Go.RowKit
variable {g : G} {n : Nat}
def goodC (c : Cfg) : Bool := decide ((1 ≤ c.cores ∧ c.cores ≤ 8) ∧ (2 ≤ c.lines ∧ c.lines ≤ 64) ∧ (1 ≤ c.vol ∧ c.vol ≤ c.lines - 1) ∧ (c.sets = 1 ∨ c.sets = 2 ∨ c.sets = 4 ∨ c.sets = 8) ∧ (1 ≤ c.ways ∧ c.ways ≤ 8) ∧ (1 ≤ c.queue ∧ c.queue ≤ 16) ∧ (1 ≤ c.store ∧ c.store ≤ 16))
theorem goodC_t {c : Cfg} (h : goodC c = true) : c.good := by
  obtain ⟨a, b, d, e, f, i, j⟩ := of_decide_eq_true h
  exact ⟨a, b, d, e, f, i, j⟩
theorem wSub {a b : Int} {K : Value → Prop} (h0 : -9223372036854775808 ≤ a - b) (h1 : a - b ≤ 9223372036854775807) (h : K (.int .i64 (a - b))) : kBin .int .sub (.int .i64 a) (.int .i64 b) K := by
  have e : kBin .int .sub (.int .i64 a) (.int .i64 b) K = K (.int .i64 (IntKind.i64.wrap (a - b))) := by
    simp only [kBin, kIntBin]
    simp
  rw [e, wrap64_of h0 h1]; exact h
theorem between_spec (a b c : Int) {K : Cont} (hK : ∀ n', K (.bool (decide (b ≤ a ∧ a ≤ c))) g n') : AC word_between_id [.int .i64 a, .int .i64 b, .int .i64 c] g n K := by
  refine ACalls.fold X0_mono ?_
  rw [← word_between_eq]
  simp only [word_between]
  refine wGeq (kSp_d (fun h => wLeq (lfE hK ?_)) (fun h => lfE hK ?_))
  · exact decide_eq_decide.2 (by omega)
  · exact (decide_eq_false (by omega)).symm
set_option maxHeartbeats 1000000 in
theorem wGood_spec (c : Cfg) {K : Cont} (hK : ∀ g' n', Sub g g' → K (.bool (goodC c)) g' n') : AC word_Good_id [.agg (encC c).toArray] g n K := by
  refine ACalls.fold X0_mono ?_
  rw [← word_Good_eq]
  simp only [word_Good, kAgg_a]
  intro hn
  have s1 := (Sub.refl g).new hn (some (.cells (encC c) .exact))
  have hx : upd g n (some (.cells (encC c) .exact)) n = some (.cells (encC c) .exact) := upd_same _ _ _
  generalize upd g n (some (.cells (encC c) .exact)) = g1 at s1 hx ⊢
  replace hK : ∀ n', K (.bool (goodC c)) g1 n' := fun n' => hK _ _ s1
  unfold goodC at hK
  repeat' (first
    | refine kLd_of hx (show (encC c)[0 + 0]? = some (.int .i64 c.cores) from rfl) ?_ | refine kLd_of hx (show (encC c)[0 + 1]? = some (.int .i64 c.lines) from rfl) ?_ | refine kLd_of hx (show (encC c)[0 + 2]? = some (.int .i64 c.vol) from rfl) ?_
    | refine kLd_of hx (show (encC c)[0 + 3]? = some (.int .i64 c.sets) from rfl) ?_ | refine kLd_of hx (show (encC c)[0 + 4]? = some (.int .i64 c.ways) from rfl) ?_ | refine kLd_of hx (show (encC c)[0 + 5]? = some (.int .i64 c.queue) from rfl) ?_
    | refine kLd_of hx (show (encC c)[0 + 6]? = some (.int .i64 c.store) from rfl) ?_
    | refine between_spec _ _ _ (fun _ => ?_) | refine wEql ?_ | refine wSub (by omega) (by omega) ?_ | (refine kSp_d (fun h => ?_) (fun h => ?_)) | refine lfE hK ?_)
  all_goals first | exact decide_eq_decide.2 (by omega) | exact (decide_eq_false (by omega)).symm
set_option maxHeartbeats 1000000 in
theorem rGood_spec (c : Cfg) {K : Cont} (hK : ∀ g' n', Sub g g' → K (.bool (goodC c)) g' n') : AC bellowsref01_Good_id [.agg (encC c).toArray] g n K := by
  refine ACalls.fold X0_mono ?_
  rw [← bellowsref01_Good_eq]
  simp only [bellowsref01_Good, kAgg_a]
  intro hn
  have s1 := (Sub.refl g).new hn (some (.cells (encC c) .exact))
  have hx : upd g n (some (.cells (encC c) .exact)) n = some (.cells (encC c) .exact) := upd_same _ _ _
  generalize upd g n (some (.cells (encC c) .exact)) = g1 at s1 hx ⊢
  replace hK : ∀ n', K (.bool (goodC c)) g1 n' := fun n' => hK _ _ s1
  unfold goodC at hK
  repeat' (first
    | refine kLd_of hx (show (encC c)[0 + 0]? = some (.int .i64 c.cores) from rfl) ?_ | refine kLd_of hx (show (encC c)[0 + 1]? = some (.int .i64 c.lines) from rfl) ?_ | refine kLd_of hx (show (encC c)[0 + 2]? = some (.int .i64 c.vol) from rfl) ?_
    | refine kLd_of hx (show (encC c)[0 + 3]? = some (.int .i64 c.sets) from rfl) ?_ | refine kLd_of hx (show (encC c)[0 + 4]? = some (.int .i64 c.ways) from rfl) ?_ | refine kLd_of hx (show (encC c)[0 + 5]? = some (.int .i64 c.queue) from rfl) ?_
    | refine kLd_of hx (show (encC c)[0 + 6]? = some (.int .i64 c.store) from rfl) ?_
    | refine wEql ?_ | refine wGeq ?_ | refine wLeq ?_ | refine wLss ?_ | (refine kSp_d (fun h => ?_) (fun h => ?_)) | refine lfE hK ?_)
  all_goals first | exact decide_eq_decide.2 (by omega) | exact (decide_eq_false (by omega)).symm
end Go.Proofs.YtjpckcikmfihlaaGreat.Gen

namespace Go.Proofs.YtjpckcikmfihlaaGreat.Gen
open Go Go.Proofs.YtjpckcikmfihlaaGreat.Abs Go.RowKit
variable {g : G} {n : Nat}
def newD (c : Cfg) (img : List Ln) : Dev := if img = [] then ⟨List.replicate c.lines.toNat zeroL, c.vol.toNat⟩ else Dev.fail ⟨img, c.vol.toNat⟩
def newSys (c : Cfg) (img : List Ln) : Sys := ⟨c, List.replicate c.cores.toNat (nd0 c), List.replicate c.lines.toNat emptyEnt, [], newD c img⟩
theorem live0 : Live (fun _ => (none : Option Cl)) g := fun _ _ h => nomatch h
theorem unc0 : unc (fun _ => (none : Option Cl)) g = g := rfl
section
variable {K : Cont} {o : Col Cl}
theorem kFill_q {ld : Nat} {room : Int} {K : List Value → Prop} (k : K [ptr ld 0, .int .i64 room, .slice none 0 0]) : kFill [.pointer none, .int .i64 0, .slice none 0 0] [(0, none, ptr ld 0), (1, none, .int .i64 room)] K := ⟨rfl, by decide, rfl, Nat.le_of_ble_eq_true rfl, k⟩
theorem WNew_spec {ld : Nat} {room : Int} (h1 : 1 ≤ room ∧ room ≤ 16) (hK : ∀ g' n' lq, g lq = none → Sub g g' → g' lq = some (.cells [ptr ld 0, .int .i64 room, .slice none 0 0] .exact) → K (.tuple #[ptr lq 0, .int .i64 0]) g' n') : AC wpq_New_id [ptr ld 0, .int .i64 room] g n K := by
  refine ACalls.fold X0_mono ?_
  rw [← wpq_New_eq]
  simp only [wpq_New]
  refine wNilQ (kSp_b (fun h => nomatch h) (fun _ => wLss (kSp_d (fun h => absurd h (by omega)) (fun _ => wGtr (kSp_d (fun h => absurd h (by omega)) (fun _ => kFill_q ?_))))))
  simp only [kAgg_a]
  intro hn
  exact aRet_of (Sub.refl _) (hK _ _ n hn ((Sub.refl g).new hn _) (upd_same _ _ _))
theorem kFill_sys {c : Cfg} {lq : Nat} {K : List Value → Prop} (k : K (encC c ++ [.slice none 0 0, .slice none 0 0, ptr lq 0, .int .i64 0])) : kFill (encC ⟨0, 0, 0, 0, 0, 0, 0⟩ ++ [.slice none 0 0, .slice none 0 0, .pointer none, .int .i64 0]) [(0, some 7, .agg (encC c).toArray), (9, none, ptr lq 0)] K := ⟨rfl, by decide, rfl, Nat.le_of_ble_eq_true rfl, k⟩
theorem paint1 {t : Cl → Prop} {g' : G} {l : Nat} {c : Cl} {b : Blk} (hL : Live o g) (hs : Sub g g') (hl : g l = none) (ht : t c) (hb : g' l = some b) : Kept t o (upd o l (some c)) g g' ∧ Live (upd o l (some c)) g' := by
  refine ⟨Kept_paint hL hs (fun i => ?_), fun i d hi => ?_⟩
  · by_cases h : i = l
    · subst h; exact .inr ⟨hl, c, ht, upd_same _ _ _⟩
    · exact .inl (upd_ne _ _ h)
  · by_cases h : i = l
    · subst h; exact ⟨b, hb⟩
    · rw [upd_ne _ _ h] at hi
      obtain ⟨b', hb'⟩ := hL i d hi
      exact ⟨b', hs.live hb'⟩
def isNew (c : Cl) : Prop := c = .que ∨ c = .sys
theorem New_j1 {c : Cfg} (hc : c.good) {t : Env} {l2 le lm : Nat} {D : Dev} (t2 : t 2 = ptr l2 0) (t6 : t 6 = ptr le 0) (hL : Live o g) (h2 : unc o g l2 = some (.cells (encC c) .exact)) (hD : DevH o g le lm D)
    (hK : ∀ l o' g' n' W', Sub (unc o g) (unc o' g') → SysH o' g' l W' ⟨c, List.replicate c.cores.toNat (nd0 c), List.replicate c.lines.toNat emptyEnt, [], D⟩ → K (.tuple #[ptr l 0, .int .i64 0]) g' n') : mesi_New_j1 AC K t g n := by
  simp only [mesi_New_j1, t2, t6, kPtr_p]
  have x2 := (unc_sub _ _).live h2
  refine kLd_of x2 (show (encC c)[0 + 5]? = some (.int .i64 c.queue) from rfl) ?_
  refine WNew_spec hc.queue (fun g3 n3 lq fq s3 x3 => ?_)
  simp only [kExtract_t, kGet_zero, kGet_succ]
  refine wNeq (kSp_d (fun h => absurd h (by decide)) (fun _ => ?_))
  refine kLdN_of (s3.live x2) (by simp [encC]) ?_
  rw [show ((encC c).drop 0).take 7 = encC c from rfl]
  refine kFill_sys ?_
  simp only [kAgg_a]
  intro hn
  obtain ⟨k3, L3⟩ := paint1 (t := isNew) (c := Cl.que) hL s3 fq (.inl rfl) x3
  have hq : (upd o lq (some Cl.que)) lq = some .que := upd_same _ _ _
  generalize upd o lq (some Cl.que) = o3 at k3 L3 hq
  have k4 : Kept isNew o3 (upd o3 n3 (some .sys)) g3 (upd g3 n3 (some (.cells (encC c ++ [.slice none 0 0, .slice none 0 0, ptr lq 0, .int .i64 0]) .exact))) := Kept.new (L3.fresh hn) hn (.inr rfl) _
  have L4 := L3.new n3 Cl.sys (.cells (encC c ++ [.slice none 0 0, .slice none 0 0, ptr lq 0, .int .i64 0]) .exact)
  have x4 : upd g3 n3 (some (.cells (encC c ++ [.slice none 0 0, .slice none 0 0, ptr lq 0, .int .i64 0]) .exact)) n3 = _ := upd_same _ _ _
  have s4 := (Sub.refl g3).new hn (some (.cells (encC c ++ [.slice none 0 0, .slice none 0 0, ptr lq 0, .int .i64 0]) .exact))
  have os : (upd o3 n3 (some Cl.sys)) n3 = some .sys := upd_same _ _ _
  have oq : (upd o3 n3 (some Cl.sys)) lq = some .que := by rw [upd_ne _ _ (ne_of_live x3 hn).symm]; exact hq
  generalize upd g3 n3 (some (.cells (encC c ++ [.slice none 0 0, .slice none 0 0, ptr lq 0, .int .i64 0]) .exact)) = g4 at k4 L4 x4 s4 ⊢
  generalize upd o3 n3 (some Cl.sys) = o4 at k4 L4 os oq
  have kk := k3.trans k4
  refine begin_spec (q := []) (D := D) hc L4 os x4 ⟨oq, s4.live x3, .inl ⟨rfl, rfl⟩⟩ (hD.kept kk (by simp [isNew]) (by simp [isNew])) (fun o5 g5 n5 W5 u5 h5 => ?_)
  exact aRet_of (Sub.refl _) (hK _ _ _ _ _ (kk.unc.trans u5) h5)
theorem SNew_spec (c : Cfg) {v : Value} {img : List Ln} (hv : Sl encL 8 g v img)
    (hbad : ¬ (goodC c = true ∧ (img = [] ∨ (img.length : Int) = c.lines)) → ∀ g' n', Sub g g' → K (.tuple #[.pointer none, .int .i64 1]) g' n')
    (hK : goodC c = true → (img = [] ∨ (img.length : Int) = c.lines) → ∀ l o' g' n' W', Sub g (unc o' g') → SysH o' g' l W' (newSys c img) → K (.tuple #[ptr l 0, .int .i64 0]) g' n') : AC mesi_New_id [.agg (encC c).toArray, v] g n K := by
  refine ACalls.fold X0_mono ?_
  rw [← mesi_New_eq]
  simp only [mesi_New, kAgg_a]
  intro hn
  have s1 := (Sub.refl g).new hn (some (.cells (encC c) .exact))
  have x1 : upd g n (some (.cells (encC c) .exact)) n = some (.cells (encC c) .exact) := upd_same _ _ _
  generalize upd g n (some (.cells (encC c) .exact)) = g1 at s1 x1 ⊢
  refine kLdN_of x1 (by simp [encC]) ?_
  rw [show ((encC c).drop 0).take 7 = encC c from rfl]
  refine wGood_spec c (fun g2 n2 s2 => wNot (kSp_b (fun h => ?_) (fun h => ?_)))
  · exact aRet_of (Sub.refl _) (hbad (fun a => by rw [a.1] at h; cases h) _ _ (s1.trans s2))
  have hg' : goodC c = true := by simpa using h
  have hc := goodC_t hg'
  have x2 := s2.live x1
  have s12 := s1.trans s2
  have hv2 := hv.mono s12
  have hlines := hc.lines
  have hvol := hc.vol
  have el : ((c.lines.toNat : Nat) : Int) = c.lines := by omega
  have ev : ((c.vol.toNat : Nat) : Int) = c.vol := by omega
  have dev : (img = [] ∨ (img.length : Int) = c.lines) → ∀ (K2 : Value → G → Nat → Prop), (∀ le lm o3 g3 n3, Sub g2 (unc o3 g3) → Live o3 g3 → DevH o3 g3 le lm ⟨List.replicate c.lines.toNat zeroL, c.vol.toNat⟩ → K2 (.tuple #[ptr le 0, .int .i64 0]) g3 n3) → AC nvm_New_id [.int .i64 c.lines, .int .i64 c.vol] g2 n2 K2 := by
    intro _ K2 hK2
    have := DNew_spec (g := g2) (n := n2) (o := fun _ => none) live0 (lines := c.lines.toNat) (vol := c.vol.toNat) (by omega) (by omega) (by omega) (by omega) (K := K2) (fun ld lm o3 g3 n3 k3 L3 s3 d3 => hK2 ld lm o3 g3 n3 (by have := k3.unc; rwa [unc0] at this) L3 d3)
    rw [el, ev] at this
    exact this
  have fin1 : img = [] → ∀ (t : Env) (o3 : Col Cl) (g3 : G) (n3 le lm : Nat), t 2 = ptr n 0 → t 6 = ptr le 0 → Sub g2 (unc o3 g3) → Live o3 g3 → DevH o3 g3 le lm ⟨List.replicate c.lines.toNat zeroL, c.vol.toNat⟩ → mesi_New_j1 AC K t g3 n3 := by
    intro hi t o3 g3 n3 le lm t2 t6 u3 L3 d3
    refine New_j1 hc t2 t6 L3 (u3.live x2) d3 (fun l o' g' n' W' u' h' => hK hg' (.inl hi) l o' g' n' W' ((s12.trans u3).trans u') ?_)
    unfold newSys newD
    rw [if_pos hi]; exact h'
  have fin2 : img ≠ [] → (img.length : Int) = c.lines → ∀ (t : Env) (o3 : Col Cl) (g3 : G) (n3 le lm : Nat), t 2 = ptr n 0 → t 6 = ptr le 0 → Sub g2 (unc o3 g3) → Live o3 g3 → DevH o3 g3 le lm (Dev.fail ⟨img, c.vol.toNat⟩) → mesi_New_j1 AC K t g3 n3 := by
    intro hi hi2 t o3 g3 n3 le lm t2 t6 u3 L3 d3
    refine New_j1 hc t2 t6 L3 (u3.live x2) d3 (fun l o' g' n' W' u' h' => hK hg' (.inr hi2) l o' g' n' W' ((s12.trans u3).trans u') ?_)
    unfold newSys newD
    rw [if_neg hi]; exact h'
  refine hv2.len ?_
  refine wNeq (kSp_d (fun h0 => ?_) (fun h0 => ?_))
  · have hne : img ≠ [] := fun e => by rw [e] at h0; exact h0 rfl
    refine hv2.len ?_
    refine kLd_of x2 (show (encC c)[0 + 1]? = some (.int .i64 c.lines) from rfl) (wNeq (kSp_d (fun h1 => ?_) (fun h1 => ?_)))
    · exact aRet_of (Sub.refl _) (hbad (fun a => a.2.elim (fun e => hne e) (fun e => h1 e)) _ _ s12)
    have hl : (img.length : Int) = c.lines := by simpa using h1
    refine kLd_of x2 (show (encC c)[0 + 1]? = some (.int .i64 c.lines) from rfl) (kLd_of x2 (show (encC c)[0 + 2]? = some (.int .i64 c.vol) from rfl) ?_)
    refine dev (.inr hl) _ (fun le lm o3 g3 n3 u3 L3 d3 => ?_)
    simp only [kExtract_t, kGet_zero, kGet_succ]
    refine wNeq (kSp_d (fun h => absurd h (by decide)) (fun _ => ?_))
    have hv3 : Sl encL 8 g3 v img := (hv2.mono u3).mono (unc_sub _ _)
    refine hv3.len (wGtr (kSp_d (fun h2 => ?_) (fun h2 => ?_)))
    · refine DRestore_spec L3 d3 hv3 (by simp; omega) hne (fun g4 n4 k4 L4 d4 => ?_)
      refine DFail_spec L4 d4 ⟨by show 1 ≤ c.vol.toNat; omega, by show c.vol.toNat < img.length; omega, by show img.length ≤ 64; omega⟩ (fun g5 n5 k5 L5 d5 => ?_)
      exact fin2 hne hl _ o3 g5 n5 le lm rfl rfl (u3.trans ((k4.trans k5).unc)) L5 d5
    · exact absurd (List.length_pos_iff.2 hne) (by omega)
  · have hi : img = [] := List.eq_nil_of_length_eq_zero (by omega)
    refine kLd_of x2 (show (encC c)[0 + 1]? = some (.int .i64 c.lines) from rfl) (kLd_of x2 (show (encC c)[0 + 2]? = some (.int .i64 c.vol) from rfl) ?_)
    refine dev (.inl hi) _ (fun le lm o3 g3 n3 u3 L3 d3 => ?_)
    simp only [kExtract_t, kGet_zero, kGet_succ]
    refine wNeq (kSp_d (fun h => absurd h (by decide)) (fun _ => ?_))
    have hv3 : Sl encL 8 g3 v img := (hv2.mono u3).mono (unc_sub _ _)
    refine hv3.len (wGtr (kSp_d (fun h2 => ?_) (fun h2 => ?_)))
    · rw [hi] at h2; simp at h2
    · exact fin1 hi _ o3 g3 n3 le lm rfl rfl u3 L3 d3
end
end Go.Proofs.YtjpckcikmfihlaaGreat.Gen

namespace Go.Proofs.YtjpckcikmfihlaaGreat.Gen
open Go Go.Proofs.YtjpckcikmfihlaaGreat.Abs Go.RowKit
/-- a good array, with at most so many numbers -/
structure Gd (A : Arr) (k : Nat) : Prop where
  ok : A.ok
  wf : A.wf
  used : A.used ≤ k
theorem Gd.le {A : Arr} {k k' : Nat} (h : Gd A k) (hk : k ≤ k') : Gd A k' := ⟨h.ok, h.wf, by have := h.used; omega⟩
theorem Gd.set {A : Arr} {k : Nat} (h : Gd A k) (hk : k < 100000) (line state : Int) (d : Ln) : Gd (A.set line state d).2 (k + 1) :=
  ⟨Arr.set_ok h.ok (by have := h.used; omega) _ _ _, Arr.set_wf h.ok h.wf _ _ _, by have := h.used; have := (Arr.set_used A line state d).2; omega⟩
theorem Gd.touch {A : Arr} {k : Nat} (h : Gd A k) (hk : k < 100000) (line : Int) : Gd (A.touch line) (k + 1) :=
  ⟨Arr.touch_ok h.ok (by have := h.used; omega) _, Arr.touch_wf h.ok h.wf _, by have := h.used; have := (Arr.touch_used A line).2; omega⟩
theorem Gd.drop {A : Arr} {k : Nat} (h : Gd A k) (line : Int) : Gd (A.drop line) k :=
  ⟨Arr.drop_ok h.ok _, Arr.drop_wf h.wf _, by rw [Arr.drop_used]; exact h.used⟩
theorem Gd.out {A : Arr} {k : Nat} (h : Gd A k) (hk : k < 100000) (s : St) : Gd (A.out s).2 (k + 1) := h.set hk _ _ _
theorem Gd.ask {A : Arr} {k : Nat} (h : Gd A k) (hk : k < 100000) (line state kind : Int) (d : Ln) : Gd (A.ask line state kind d).2 (k + 1) := by
  unfold Arr.ask
  split
  · exact h.le (by omega)
  · split
    · split
      · exact h.le (by omega)
      · exact h.out hk _
    · exact h.set hk _ _ _
theorem Gd.load {A : Arr} {k : Nat} (h : Gd A k) (hk : k < 100000) (line word : Int) : Gd (A.load line word).2 (k + 1) := by
  unfold Arr.load
  split
  · exact h.le (by omega)
  · split
    · exact h.touch hk _
    · exact h.ask hk _ _ _ _
theorem Gd.reach {A : Arr} {k : Nat} (h : Gd A k) (hk : k < 100000) (line : Int) : Gd (A.reach line).2 (k + 1) := by
  unfold Arr.reach
  split
  · exact h.le (by omega)
  · split
    · exact h.ask hk _ _ _ _
    · exact h.ask hk _ _ _ _
theorem Gd.store {A : Arr} {k : Nat} (h : Gd A k) (hk : k < 100000) (line word v : Int) : Gd (A.store line word v).2 (k + 1) := by
  unfold Arr.store
  split
  · exact h.le (by omega)
  · split
    · exact h.reach hk _
    · exact h.set hk _ _ _
theorem Gd.hear {A : Arr} {k : Nat} (h : Gd A k) (hk : k < 100000) (m : Ms) : Gd (A.hear m).2.1 (k + 1) := by
  unfold Arr.hear
  split
  · exact h.le (by omega)
  · split
    · exact h.le (by omega)
    · split
      · exact h.le (by omega)
      · split
        · exact (h.drop _).le (by omega)
        · exact h.set hk _ _ _
theorem Gd.evict {A : Arr} {k : Nat} (h : Gd A k) (hk : k < 100000) (line : Int) : Gd (A.evict line).2.1 (k + 1) := by
  unfold Arr.evict
  split
  · exact h.le (by omega)
  · split
    · exact h.le (by omega)
    · exact h.out hk _
theorem gd0 {s w : Nat} (hs : s = 1 ∨ s = 2 ∨ s = 4 ∨ s = 8) (h1 : 1 ≤ w) (h2 : w ≤ 8) : Gd (arr0 s w) 0 := ⟨arr0_ok hs h1 h2, arr0_wf s w, Int.le_refl _⟩

/-- all slots' lines are such as there are -/
def Lin (A : Arr) (L : Int) : Prop := ∀ s ∈ A.l, 0 ≤ s.line ∧ s.line < L
section
variable {A : Arr} {L : Int}
theorem Lin.put {line : Int} {k : Nat} {t : St} (h : Lin A L) (ht : 0 ≤ t.line ∧ t.line < L) : Lin (A.put line k t) L := by
  intro s hs
  rcases List.mem_or_eq_of_mem_set (show s ∈ A.l.set (A.from line + k) t from hs) with hs | rfl
  · exact h s hs
  · exact ht
theorem Lin.slotAt (h : Lin A L) (hL : 0 < L) (line : Int) (k : Nat) : 0 ≤ (A.slotAt line k).line ∧ (A.slotAt line k).line < L := by
  unfold Arr.slotAt
  rw [List.getD_eq_getElem?_getD]
  cases e : A.l[A.from line + k]? with
  | none => exact ⟨Int.le_refl 0, hL⟩
  | some s => exact h s (List.mem_of_getElem? e)
theorem Lin.slot (h : Lin A L) (hL : 0 < L) (line : Int) : 0 ≤ (A.slot line).line ∧ (A.slot line).line < L := by
  unfold Arr.slot Arr.find
  split
  · exact ⟨Int.le_refl 0, hL⟩
  · exact h.slotAt hL _ _
theorem Lin.set (h : Lin A L) {line : Int} (hl : 0 ≤ line ∧ line < L) (state : Int) (d : Ln) : Lin (A.set line state d).2 L := by
  unfold Arr.set
  split
  · exact h
  · split
    · exact h
    · exact Lin.put (A := A.tick) h hl
theorem Lin.touch (h : Lin A L) (hL : 0 < L) (line : Int) : Lin (A.touch line) L := by
  unfold Arr.touch
  split
  · exact h
  · exact Lin.put (A := A.tick) h (h.slotAt hL _ _)
theorem Lin.drop (h : Lin A L) (hL : 0 < L) (line : Int) : Lin (A.drop line) L := by
  unfold Arr.drop
  split
  · exact h
  · exact Lin.put h ⟨Int.le_refl 0, hL⟩
/-- messages' lines are such as there are -/
def MsL (L : Int) (l : List Ms) : Prop := ∀ m ∈ l, 0 ≤ m.line ∧ m.line < L
theorem Lin.out (h : Lin A L) {s : St} (hs : 0 ≤ s.line ∧ s.line < L) : MsL L (A.out s).1 ∧ Lin (A.out s).2 L := by
  refine ⟨fun m hm => ?_, h.set hs _ _⟩
  rcases List.mem_singleton.1 (show m ∈ [outM s] from hm) with rfl
  exact hs
theorem MsL.nil : MsL L [] := fun _ h => nomatch h
theorem Lin.ask (h : Lin A L) (hL : 0 < L) {line : Int} (hl : 0 ≤ line ∧ line < L) (state kind : Int) (d : Ln) : MsL L (A.ask line state kind d).1 ∧ Lin (A.ask line state kind d).2 L := by
  unfold Arr.ask
  split
  · exact ⟨MsL.nil, h⟩
  · split
    · split
      · exact ⟨MsL.nil, h⟩
      · exact h.out (h.slot hL _)
    · refine ⟨fun m hm => ?_, h.set hl _ _⟩
      rcases List.mem_singleton.1 hm with rfl
      exact hl
theorem Lin.load (h : Lin A L) (hL : 0 < L) {line : Int} (hl : 0 ≤ line ∧ line < L) (word : Int) : MsL L (A.load line word).1 ∧ Lin (A.load line word).2 L := by
  unfold Arr.load
  split
  · exact ⟨MsL.nil, h⟩
  · split
    · exact ⟨MsL.nil, h.touch hL _⟩
    · exact h.ask hL hl _ _ _
theorem Lin.reach (h : Lin A L) (hL : 0 < L) {line : Int} (hl : 0 ≤ line ∧ line < L) : MsL L (A.reach line).1 ∧ Lin (A.reach line).2 L := by
  unfold Arr.reach
  split
  · exact ⟨MsL.nil, h⟩
  · split
    · exact h.ask hL hl _ _ _
    · exact h.ask hL hl _ _ _
theorem Lin.store (h : Lin A L) (hL : 0 < L) {line : Int} (hl : 0 ≤ line ∧ line < L) (word v : Int) : MsL L (A.store line word v).1 ∧ Lin (A.store line word v).2 L := by
  unfold Arr.store
  split
  · exact ⟨MsL.nil, h⟩
  · split
    · exact h.reach hL hl
    · exact ⟨MsL.nil, h.set hl _ _⟩
theorem ansM_lin {m : Ms} (hm : 0 ≤ m.line ∧ m.line < L) (s : St) (next : Int) : MsL L (ansM m s next) := by
  intro x hx
  unfold ansM at hx
  split at hx
  · rcases List.mem_singleton.1 hx with rfl; exact hm
  · split at hx
    · rcases List.mem_singleton.1 hx with rfl; exact hm
    · cases hx
theorem Lin.hear (h : Lin A L) (hL : 0 < L) {m : Ms} (hm : 0 ≤ m.line ∧ m.line < L) : MsL L (A.hear m).1 ∧ Lin (A.hear m).2.1 L := by
  unfold Arr.hear
  split
  · exact ⟨MsL.nil, h⟩
  · split
    · exact ⟨MsL.nil, h⟩
    · split
      · exact ⟨MsL.nil, h⟩
      · split
        · exact ⟨ansM_lin hm _ _, h.drop hL _⟩
        · exact ⟨ansM_lin hm _ _, h.set hm _ _⟩
theorem Lin.evict (h : Lin A L) (hL : 0 < L) (line : Int) : MsL L (A.evict line).1 ∧ Lin (A.evict line).2.1 L := by
  unfold Arr.evict
  split
  · exact ⟨MsL.nil, h⟩
  · split
    · exact ⟨MsL.nil, h⟩
    · exact h.out (h.slot hL _)
theorem lin0 {s w : Nat} (hL : 0 < L) : Lin (arr0 s w) L := by
  intro t ht
  rcases List.mem_replicate.1 (show t ∈ List.replicate (s * w) zeroS from ht) with ⟨_, rfl⟩
  exact ⟨Int.le_refl 0, hL⟩
end
end Go.Proofs.YtjpckcikmfihlaaGreat.Gen

namespace Go.Proofs.YtjpckcikmfihlaaGreat.Gen
open Go Go.Proofs.YtjpckcikmfihlaaGreat.Abs Go.RowKit
/-! what every call of a system keeps -/
structure Nd.wf (L : Int) (k : Nat) (N : Nd) : Prop where
  gd : Gd N.A k
  lin : Lin N.A L
  up : N.up.length ≤ 1000 ∧ MsL L N.up
  ans : N.ans.length ≤ 1000 ∧ MsL L N.ans
  dn : N.dn.length ≤ 1000 ∧ MsL L N.dn
structure Sys.wf (S : Sys) (k : Nat) : Prop where
  c : S.c.good
  nodes : S.nodes.length = S.c.cores.toNat
  dir : S.dir.length = S.c.lines.toNat
  vol : S.D.vol = S.c.vol.toNat
  mem : S.D.mem.length = S.c.lines.toNat
  q : S.q.length ≤ 16
  inr : inR S.q S.D.mem.length
  nd : ∀ (i : Nat) N, S.nodes[i]? = some N → N.wf S.c.lines k
theorem Nd.wf.le {L : Int} {k k' : Nat} {N : Nd} (h : N.wf L k) (hk : k ≤ k') : N.wf L k' := ⟨h.gd.le hk, h.lin, h.up, h.ans, h.dn⟩
section
variable {S : Sys} {k : Nat}
theorem Sys.wf.le {k' : Nat} (h : S.wf k) (hk : k ≤ k') : S.wf k' := ⟨h.c, h.nodes, h.dir, h.vol, h.mem, h.q, h.inr, fun i N e => (h.nd i N e).le hk⟩
theorem Sys.wf.shp (h : S.wf k) : S.shp := by
  have hl := h.c.lines
  have hv := h.c.vol
  exact ⟨by rw [h.dir, h.mem], by rw [h.mem]; omega, by rw [h.vol, h.mem]; omega, by have := h.q; omega⟩
theorem Sys.wf.fit (h : S.wf k) (hk : k < 100000) : S.fit := fun i N e => ⟨(h.nd i N e).gd.ok, (h.nd i N e).gd.wf, by have := (h.nd i N e).gd.used; omega⟩
theorem Sys.wf.line (h : S.wf k) (x : Int) : S.line x = true ↔ 0 ≤ x ∧ x < S.c.lines := by
  unfold Sys.line
  rw [decide_eq_true_eq, h.dir]
  have := h.c.lines
  omega
theorem Sys.wf.pos (h : S.wf k) : 0 < S.c.lines := by have := h.c.lines; omega
theorem Sys.wf.setN (h : S.wf k) {i : Nat} {N : Nd} (hN : N.wf S.c.lines (k + 1)) : (S.setN i N).wf (k + 1) := by
  refine ⟨h.c, by simp only [Sys.setN, List.length_set]; exact h.nodes, h.dir, h.vol, h.mem, h.q, h.inr, fun j M e => ?_⟩
  simp only [Sys.setN] at e
  by_cases hj : i = j
  · subst hj
    have h1 := lt_of_get e
    rw [List.length_set] at h1
    rw [List.getElem?_set_self h1] at e
    cases e; exact hN
  · rw [List.getElem?_set_ne hj] at e
    exact (h.nd j M e).le (by omega)
theorem Sys.wf.setN0 (h : S.wf k) {i : Nat} {N : Nd} (hN : N.wf S.c.lines k) : (S.setN i N).wf k := by
  refine ⟨h.c, by simp only [Sys.setN, List.length_set]; exact h.nodes, h.dir, h.vol, h.mem, h.q, h.inr, fun j M e => ?_⟩
  simp only [Sys.setN] at e
  by_cases hj : i = j
  · subst hj
    have h1 := lt_of_get e
    rw [List.length_set] at h1
    rw [List.getElem?_set_self h1] at e
    cases e; exact hN
  · rw [List.getElem?_set_ne hj] at e
    exact h.nd j M e
theorem Sys.wf.setE (h : S.wf k) (i : Nat) (e : Ent) : (S.setE i e).wf k := ⟨h.c, h.nodes, by simp only [Sys.setE, List.length_set]; exact h.dir, h.vol, h.mem, h.q, h.inr, h.nd⟩
theorem pushQ_wf {L : Int} {q : List Ms} {m : Ms} (h : q.length ≤ 1000 ∧ MsL L q) (hm : 0 ≤ m.line ∧ m.line < L) : (pushQ q m).1.length ≤ 1000 ∧ MsL L (pushQ q m).1 := by
  unfold pushQ
  split
  · exact h
  · split
    · exact h
    · refine ⟨by simp; omega, fun x hx => ?_⟩
      rcases List.mem_append.1 hx with hx | hx
      · exact h.2 x hx
      · rcases List.mem_singleton.1 hx with rfl; exact hm
theorem pushAll_wf {L : Int} : ∀ {l q : List Ms}, q.length ≤ 1000 ∧ MsL L q → MsL L l → (pushAll q l).length ≤ 1000 ∧ MsL L (pushAll q l)
  | [], q, h, _ => h
  | m :: l, q, h, hl => by
    have h1 := pushQ_wf h (hl m (List.mem_cons_self ..))
    exact pushAll_wf (l := l) h1 (fun x hx => hl x (List.mem_cons_of_mem _ hx))
theorem Sys.wf.ask (h : S.wf k) {i : Nat} {N : Nd} (hN : S.nodes[i]? = some N) {A' : Arr} {ms : List Ms} (hg : Gd A' (k + 1)) (hm : MsL S.c.lines ms ∧ Lin A' S.c.lines) : (S.setN i { N with A := A', up := pushAll N.up ms }).wf (k + 1) := by
  have hn := h.nd i N hN
  exact h.setN ⟨hg, hm.2, pushAll_wf hn.up hm.1, hn.ans, hn.dn⟩
theorem Sys.wf.load (h : S.wf k) (hk : k < 100000) (core line word : Int) : (S.load core line word).1.wf (k + 1) := by
  unfold Sys.load
  split
  · exact h.le (by omega)
  · rename_i i N e
    obtain ⟨_, hN⟩ := Sys.at_some e
    have hn := h.nd i N hN
    split
    · exact h.le (by omega)
    · rename_i hl
      have hl' := (h.line line).1 (by simpa using hl)
      exact h.ask hN (hn.gd.load hk _ _) (hn.lin.load h.pos hl' _)
theorem Sys.wf.store (h : S.wf k) (hk : k < 100000) (core line word v : Int) : (S.store core line word v).1.wf (k + 1) := by
  unfold Sys.store
  split
  · exact h.le (by omega)
  · rename_i i N e
    obtain ⟨_, hN⟩ := Sys.at_some e
    have hn := h.nd i N hN
    split
    · exact h.le (by omega)
    · rename_i hl
      have hl' := (h.line line).1 (by simpa using hl)
      exact h.ask hN (hn.gd.store hk _ _ _) (hn.lin.store h.pos hl' _ _)
theorem Sys.wf.reach (h : S.wf k) (hk : k < 100000) (core line : Int) : (S.reach core line).1.wf (k + 1) := by
  unfold Sys.reach
  split
  · exact h.le (by omega)
  · rename_i i N e
    obtain ⟨_, hN⟩ := Sys.at_some e
    have hn := h.nd i N hN
    split
    · exact h.le (by omega)
    · rename_i hl
      have hl' := (h.line line).1 (by simpa using hl)
      exact h.ask hN (hn.gd.reach hk _) (hn.lin.reach h.pos hl')
theorem Sys.wf.evict (h : S.wf k) (hk : k < 100000) (core line : Int) : (S.evict core line).1.wf (k + 1) := by
  unfold Sys.evict
  split
  · exact h.le (by omega)
  · rename_i i N e
    obtain ⟨_, hN⟩ := Sys.at_some e
    have hn := h.nd i N hN
    split
    · exact h.le (by omega)
    · exact h.ask hN (hn.gd.evict hk _) (hn.lin.evict h.pos _)
theorem Sys.wf.flush (h : S.wf k) (core line kind : Int) : (S.flush core line kind).1.wf k := by
  unfold Sys.flush
  split
  · exact h
  · rename_i i N e
    obtain ⟨_, hN⟩ := Sys.at_some e
    have hn := h.nd i N hN
    split
    · exact h
    · split
      · exact h
      · rename_i hl _
        have hl' := (h.line line).1 (by simpa using hl)
        exact h.setN0 ⟨hn.gd, hn.lin, pushQ_wf hn.up hl', hn.ans, hn.dn⟩
theorem Sys.wf.hear (h : S.wf k) (hk : k < 100000) (core : Int) : (S.hear core).1.wf (k + 1) := by
  unfold Sys.hear
  split
  · exact h.le (by omega)
  · rename_i i N e
    obtain ⟨_, hN⟩ := Sys.at_some e
    have hn := h.nd i N hN
    split
    · exact h.le (by omega)
    · rename_i m r hq
      have hm : 0 ≤ m.line ∧ m.line < S.c.lines := hn.dn.2 m (by rw [hq]; simp)
      have hr : r.length ≤ 1000 ∧ MsL S.c.lines r := ⟨by have := hn.dn.1; rw [hq] at this; simp at this; omega, fun x hx => hn.dn.2 x (by rw [hq]; exact List.mem_cons_of_mem _ hx)⟩
      have hl := hn.lin.hear h.pos hm
      exact h.setN ⟨hn.gd.hear hk m, hl.2, hn.up, pushAll_wf hn.ans hl.1, hr⟩
theorem Sys.wf.send1 (h : S.wf k) {line : Int} (hl : 0 ≤ line ∧ line < S.c.lines) (x : Snd) : (S.send1 line x).wf k := by
  unfold Sys.send1
  split
  · exact h
  · rename_i i N e
    obtain ⟨_, hN⟩ := Sys.at_some e
    have hn := h.nd i N hN
    exact h.setN0 ⟨hn.gd, hn.lin, hn.up, hn.ans, pushQ_wf hn.dn hl⟩
theorem send1_c (S : Sys) (line : Int) (x : Snd) : (S.send1 line x).c = S.c := by unfold Sys.send1; split <;> rfl
theorem Sys.wf.sends {line : Int} : ∀ {l : List Snd} {S : Sys}, S.wf k → 0 ≤ line ∧ line < S.c.lines → (S.sends line l).wf k
  | [], S, h, _ => h
  | x :: l, S, h, hl => Sys.wf.sends (l := l) (h.send1 hl x) (by rw [send1_c]; exact hl)
theorem Sys.wf.write (h : S.wf k) {i : Nat} {e : Ent} (hi : S.dir[i]? = some e) : (S.write i e).1.wf k := by
  unfold Sys.write
  split
  · exact h
  · have hlt := lt_of_get hi
    have hq := h.c.queue
    refine ⟨h.c, h.nodes, h.dir, h.vol, h.mem, ?_, ?_, h.nd⟩
    · show (pushW _ _ _ _ _).1.length ≤ 16
      unfold pushW
      split
      · exact h.q
      · split
        · exact h.q
        · simp; omega
    · intro x hx
      have hx' : x ∈ (pushW S.q S.D S.c.queue (i : Nat) e.data).1 := hx
      unfold pushW at hx'
      split at hx'
      · exact h.inr x hx'
      · split at hx'
        · exact h.inr x hx'
        · rcases List.mem_append.1 hx' with hx' | hx'
          · exact h.inr x hx'
          · rcases List.mem_singleton.1 hx' with rfl
            show 0 ≤ ((i : Nat) : Int) ∧ ((i : Nat) : Int) < S.D.mem.length
            rw [h.mem, ← h.dir]; omega
theorem write_c (S : Sys) (i : Nat) (e : Ent) : (S.write i e).1.c = S.c := by unfold Sys.write; split <;> rfl
theorem Sys.wf.push (h : S.wf k) (line : Int) : (S.push line).1.wf k := by
  unfold Sys.push
  split
  · exact h
  · rename_i i e he
    obtain ⟨hl, hi⟩ := Sys.ent_some he
    have hlt := lt_of_get hi
    split
    · exact h
    · split
      · exact h.write hi
      · split
        · exact h.write hi
        · refine Sys.wf.sends ((h.write hi).setE _ _) ?_
          show 0 ≤ line ∧ line < (S.write i e).1.c.lines
          rw [write_c, hl]
          have := h.dir
          omega
theorem Sys.wf.drop (h : S.wf k) (line : Int) : (S.drop line).1.wf k := by
  unfold Sys.drop
  split
  · exact h
  · rename_i i e he
    obtain ⟨hl, hi⟩ := Sys.ent_some he
    split
    · exact h
    · split
      · exact h.write hi
      · exact (h.write hi).setE _ _
theorem Sys.wf.drain (h : S.wf k) (line : Int) : (S.drain line).1.wf k := by
  unfold Sys.drain
  split
  · exact h
  · have hp := Dev.put_len S.D
    unfold drainW
    split
    · exact h
    · rename_i j hj
      obtain ⟨p1, p2⟩ := hp line (S.q.getD j zeroE).data
      refine ⟨h.c, h.nodes, h.dir, p2.trans h.vol, p1.trans h.mem, ?_, ?_, h.nd⟩
      · have := List.length_eraseIdx_le S.q j; have := h.q
        show (S.q.eraseIdx j).length ≤ 16
        omega
      · intro x hx
        show 0 ≤ x.line ∧ x.line < ((S.D.put line (S.q.getD j zeroE).data).mem.length : Nat)
        rw [p1]
        exact h.inr x (List.mem_of_mem_eraseIdx hx)
theorem Sys.wf.here (h : S.wf k) (i : Nat) (e : Ent) : (S.here i e).wf k := by
  unfold Sys.here
  split
  · exact h
  · exact h.setE _ _
theorem here_c (S : Sys) (i : Nat) (e : Ent) : (S.here i e).c = S.c := by unfold Sys.here; split <;> rfl
theorem here_nodes (S : Sys) (i : Nat) (e : Ent) : (S.here i e).nodes = S.nodes := by unfold Sys.here; split <;> rfl
theorem Sys.wf.up (h : S.wf k) (core : Int) : (S.up core).1.wf k := by
  unfold Sys.up
  split
  · exact h
  · rename_i i N e
    obtain ⟨_, hN⟩ := Sys.at_some e
    have hn := h.nd i N hN
    split
    · exact h
    · rename_i m r hq
      have hm : 0 ≤ m.line ∧ m.line < S.c.lines := hn.up.2 m (by rw [hq]; simp)
      have hr : r.length ≤ 1000 ∧ MsL S.c.lines r := ⟨by have := hn.up.1; rw [hq] at this; simp at this; omega, fun x hx => hn.up.2 x (by rw [hq]; exact List.mem_cons_of_mem _ hx)⟩
      split
      · exact h
      · split
        · exact h
        · split
          · exact h.here _ _
          · refine Sys.wf.sends (Sys.wf.setE (Sys.wf.setN0 (h.here _ _) ?_) _ _) ?_
            · rw [here_c]; exact ⟨hn.gd, hn.lin, hr, hn.ans, hn.dn⟩
            · show 0 ≤ m.line ∧ m.line < (S.here _ _).c.lines
              rw [here_c]; exact hm
theorem Sys.wf.answer (h : S.wf k) (core : Int) : (S.answer core).1.wf k := by
  unfold Sys.answer
  split
  · exact h
  · rename_i i N e
    obtain ⟨_, hN⟩ := Sys.at_some e
    have hn := h.nd i N hN
    split
    · exact h
    · rename_i m r hq
      have hm : 0 ≤ m.line ∧ m.line < S.c.lines := hn.ans.2 m (by rw [hq]; simp)
      have hr : r.length ≤ 1000 ∧ MsL S.c.lines r := ⟨by have := hn.ans.1; rw [hq] at this; simp at this; omega, fun x hx => hn.ans.2 x (by rw [hq]; exact List.mem_cons_of_mem _ hx)⟩
      have h1 : (S.setN i { N with ans := r }).wf k := h.setN0 ⟨hn.gd, hn.lin, hn.up, hr, hn.dn⟩
      split
      · exact h
      · split
        · exact h1
        · exact Sys.wf.sends (h1.setE _ _) hm
theorem puts_len (es : List En) (D : Dev) : ((D.puts es).mem.length = D.mem.length) ∧ (D.puts es).vol = D.vol := Dev.puts_len es D
theorem fail_len {D : Dev} (h : D.vol ≤ D.mem.length) : D.fail.mem.length = D.mem.length := by
  unfold Dev.fail; simp; omega
theorem nd0_wf {c : Cfg} (hc : c.good) (k : Nat) : (nd0 c).wf c.lines k := by
  have hl : 0 < c.lines := by have := hc.lines; omega
  have hs := hc.sets
  have hw := hc.ways
  refine ⟨(gd0 (by omega) (by omega) (by omega)).le (by omega), lin0 hl, ⟨Nat.zero_le 1000, MsL.nil⟩, ⟨Nat.zero_le 1000, MsL.nil⟩, ⟨Nat.zero_le 1000, MsL.nil⟩⟩
theorem begin_wf {c : Cfg} (hc : c.good) {D : Dev} (hv : D.vol = c.vol.toNat) (hm : D.mem.length = c.lines.toNat) (k : Nat) : Sys.wf ⟨c, List.replicate c.cores.toNat (nd0 c), List.replicate c.lines.toNat emptyEnt, [], D⟩ k := by
  refine ⟨hc, by simp, by simp, hv, hm, by simp, (fun e he => nomatch he), fun i N hN => ?_⟩
  have : N = nd0 c := by
    obtain ⟨_, h⟩ := List.getElem?_eq_some_iff.1 hN
    rw [List.getElem_replicate] at h; exact h.symm
  subst this
  exact nd0_wf hc k
theorem Sys.wf.fail (h : S.wf k) (k' : Nat) : S.fail.wf k' := by
  obtain ⟨p1, p2⟩ := puts_len S.q S.D
  have hl := h.c.lines
  have hv := h.c.vol
  refine begin_wf h.c ?_ ?_ k'
  · show (S.D.puts S.q).vol = _; rw [p2]; exact h.vol
  · rw [fail_len (by rw [p1, p2, h.vol, h.mem]; omega), p1]; exact h.mem
theorem newSys_wf {c : Cfg} (hc : c.good) {img : List Ln} (hi : img = [] ∨ (img.length : Int) = c.lines) (k : Nat) : (newSys c img).wf k := by
  have hl := hc.lines
  have hv := hc.vol
  refine begin_wf hc ?_ ?_ k
  · unfold newD; split <;> rfl
  · unfold newD
    split
    · simp
    · rename_i hne
      rw [fail_len (by show c.vol.toNat ≤ img.length; rcases hi with e | e; exact absurd e hne; omega)]
      show img.length = _
      rcases hi with e | e
      · exact absurd e hne
      · omega
end
end Go.Proofs.YtjpckcikmfihlaaGreat.Gen

namespace Go.Proofs.YtjpckcikmfihlaaGreat.Gen
open Go Go.Proofs.YtjpckcikmfihlaaGreat.Abs Go.RowKit
variable {g : G} {n : Nat}
structure Stp where
  kind : Int
  core : Int
  line : Int
  word : Int
  val : Int
def encStp (x : Stp) : List Value := [.int .i64 x.kind, .int .i64 x.core, .int .i64 x.line, .int .i64 x.word, .int .u64 x.val]
theorem encStp_len (x : Stp) : (encStp x).length = 5 := rfl
/-- which flush a step asks for -/
def fKind (v : Int) : Int := IntKind.i64.wrap (4 + IntKind.i64.wrap (v.tmod 2))
def Sys.do (S : Sys) (x : Stp) : Sys × Int × Bool × Ms × Int :=
  if x.kind = 0 then ((S.load x.core x.line x.word).1, (S.load x.core x.line x.word).2.1, (S.load x.core x.line x.word).2.2, zeroM, 0) else
  if x.kind = 1 then ((S.store x.core x.line x.word x.val).1, 0, (S.store x.core x.line x.word x.val).2, zeroM, 0) else
  if x.kind = 2 then ((S.reach x.core x.line).1, 0, (S.reach x.core x.line).2, zeroM, 0) else
  if x.kind = 3 then ((S.flush x.core x.line (fKind x.val)).1, 0, false, zeroM, (S.flush x.core x.line (fKind x.val)).2) else
  if x.kind = 4 then ((S.up x.core).1, 0, false, zeroM, (S.up x.core).2) else
  if x.kind = 5 then ((S.answer x.core).1, 0, false, zeroM, (S.answer x.core).2) else
  if x.kind = 6 then ((S.hear x.core).1, 0, false, (S.hear x.core).2.1, (S.hear x.core).2.2) else
  if x.kind = 7 then ((S.push x.line).1, 0, false, zeroM, (S.push x.line).2) else
  if x.kind = 8 then ((S.evict x.core x.line).1, 0, false, zeroM, (S.evict x.core x.line).2) else
  if x.kind = 9 then ((S.drop x.line).1, 0, false, zeroM, (S.drop x.line).2) else
  if x.kind = 10 then ((S.drain x.line).1, 0, false, zeroM, (S.drain x.line).2) else
  if x.kind = 11 then (S.fail, 0, false, zeroM, 0) else (S, 0, false, zeroM, 0)
theorem ite_wf {c : Prop} [Decidable c] {k : Nat} {p q : Sys × Int × Bool × Ms × Int} (h1 : p.1.wf k) (h2 : q.1.wf k) : (if c then p else q).1.wf k := by
  by_cases h : c
  · rw [if_pos h]; exact h1
  · rw [if_neg h]; exact h2
theorem Sys.wf.do {S : Sys} {k : Nat} (h : S.wf k) (hk : k < 100000) (x : Stp) : (S.do x).1.wf (k + 1) := by
  unfold Sys.do
  refine ite_wf (h.load hk _ _ _) (ite_wf (h.store hk _ _ _ _) (ite_wf (h.reach hk _ _) (ite_wf ((h.flush _ _ _).le (by omega)) (ite_wf ((h.up _).le (by omega)) (ite_wf ((h.answer _).le (by omega)) (ite_wf (h.hear hk _) (ite_wf ((h.push _).le (by omega)) (ite_wf (h.evict hk _ _) (ite_wf ((h.drop _).le (by omega)) (ite_wf ((h.drain _).le (by omega)) (ite_wf (h.fail _) (h.le (by omega)))))))))))))
section
variable {o : Col Cl} {l : Nat} {W : SysW} {S : Sys} {K : Cont}
/-- a message goes into the result's own block -/
theorem ret_msg {o1 : Col Cl} {g0 g1 : G} {W1 : SysW} {S1 : Sys} {l6 : Nat} {K : G → List Value → Prop} (hu : unc o g l6 = none) (u0 : Sub (unc o g) (unc o g0)) (x0u : unc o g0 l6 = some (.cells (encM zeroM) .exact)) (u1 : Sub (unc o g0) (unc o1 g1)) (h1 : SysH o1 g1 l W1 S1) (m : Ms)
    (k : ∀ g', Sub (unc o g) (unc o1 g') → SysH o1 g' l W1 S1 → K g' (encM m)) : (encM m).length = 12 ∧ kStN g1 l6 0 (encM m) fun g3 => kLdN g3 l6 0 12 (K g3) := by
  have x1 := u1.live x0u
  refine stMm ((unc_sub _ _).live x1) (ldM (upd_same _ _ _) ?_)
  have ho1 : o1 l6 = none := by
    cases ho : o1 l6 with
    | none => rfl
    | some c => rw [unc_some ho] at x1; cases x1
  refine k _ ?_ (h1.same (same_upd ho1 _))
  have := ((u0.trans u1).upd_fresh (some (.cells (encM m) .exact)) hu)
  intro i
  rcases this i with a | a
  · exact .inl a
  · right
    rw [a]
    by_cases hi : i = l6
    · subst hi; rw [upd_same, unc_none ho1, upd_same]
    · rw [upd_ne _ _ hi]; unfold unc; split
      · rw [upd_ne _ _ hi]
      · rfl
set_option maxRecDepth 100000 in
theorem do_spec (h : SysH o g l W S) {k : Nat} (hw : S.wf k) (hk : k < 100000) (x : Stp)
    (hK : ∀ o' g' n' W', Sub (unc o g) (unc o' g') → SysH o' g' l W' (S.do x).1 → K (.tuple #[.int .u64 (S.do x).2.1, .bool (S.do x).2.2.1, .agg (encM (S.do x).2.2.2.1).toArray, .int .i64 (S.do x).2.2.2.2]) g' n') :
    AC bellowslaw09_do_id [ptr l 0, .agg (encStp x).toArray] g n K := by
  have hs := hw.shp
  have hf := hw.fit hk
  have hc := hw.c
  have hup : ∀ (i : Nat) N, S.nodes[i]? = some N → ∀ m ∈ N.up, S.line m.line = true := fun i N hN m hm => (hw.line _).2 ((hw.nd i N hN).up.2 m hm)
  have hans : ∀ (i : Nat) N, S.nodes[i]? = some N → ∀ m ∈ N.ans, S.line m.line = true := fun i N hN m hm => (hw.line _).2 ((hw.nd i N hN).ans.2 m hm)
  refine ACalls.fold X0_mono ?_
  rw [← bellowslaw09_do_eq]
  simp only [bellowslaw09_do, kAgg_a, zMs, kFill_nil]
  intro hn3
  have s1 := (Sub.refl g).new hn3 (some (.cells (encStp x) .exact))
  have x3 : upd g n (some (.cells (encStp x) .exact)) n = some (.cells (encStp x) .exact) := upd_same _ _ _
  generalize upd g n (some (.cells (encStp x) .exact)) = g1 at s1 x3 ⊢
  intro hn6
  have s2 := (Sub.refl g1).new hn6 (some (.cells (encM zeroM) .exact))
  have x6 : upd g1 (n + 1) (some (.cells (encM zeroM) .exact)) (n + 1) = some (.cells (encM zeroM) .exact) := upd_same _ _ _
  have h1 := h.mono s1
  have hu : unc o g1 (n + 1) = none := by rw [unc_none (h1.live.fresh hn6)]; exact hn6
  have u0 := Sub.uncs h1.live s2
  have h2 := h1.mono s2
  have x6u : unc o (upd g1 (n + 1) (some (.cells (encM zeroM) .exact))) (n + 1) = some (.cells (encM zeroM) .exact) := by rw [unc_none (h1.live.fresh hn6)]; exact x6
  replace x3 := s2.live x3
  have ug := Sub.uncs h.live s1
  generalize upd g1 (n + 1) (some (.cells (encM zeroM) .exact)) = g2 at s2 x3 x6 u0 h2 x6u ⊢
  have d0 : (encStp x)[0 + 0]? = some (.int .i64 x.kind) := rfl
  have d1 : (encStp x)[0 + 1]? = some (.int .i64 x.core) := rfl
  have d2 : (encStp x)[0 + 2]? = some (.int .i64 x.line) := rfl
  have d3 : (encStp x)[0 + 3]? = some (.int .i64 x.word) := rfl
  have d4 : (encStp x)[0 + 4]? = some (.int .u64 x.val) := rfl
  have e0 : ∀ {a b : Int}, a = b → ∀ {p q : Sys × Int × Bool × Ms × Int}, (if a = b then p else q) = p := fun h _ _ => if_pos h
  refine kLd_of x3 d0 ?_
  refine wEql (kSp_d (fun k0 => ?_) (fun k0 => ?_))
  · have e : S.do x = ((S.load x.core x.line x.word).1, (S.load x.core x.line x.word).2.1, (S.load x.core x.line x.word).2.2, zeroM, 0) := by unfold Sys.do; rw [if_pos k0]
    rw [e] at hK
    refine kLd_of x3 d1 (kLd_of x3 d2 (kLd_of x3 d3 (SLoad_spec h2 hf _ _ _ (fun o3 g3 n3 W3 u3 h3 => ?_))))
    simp only [kExtract_t, kGet_zero, kGet_succ]
    exact ret_msg hu u0 x6u u3 h3 zeroM (fun g' u' h' => aRet_of (Sub.refl _) (hK _ _ _ _ (ug.trans u') h'))
  refine wEql (kSp_d (fun k1 => ?_) (fun k1 => ?_))
  · have e : S.do x = ((S.store x.core x.line x.word x.val).1, 0, (S.store x.core x.line x.word x.val).2, zeroM, 0) := by unfold Sys.do; rw [if_neg k0, if_pos k1]
    rw [e] at hK
    refine kLd_of x3 d1 (kLd_of x3 d2 (kLd_of x3 d3 (kLd_of x3 d4 (SStore_spec h2 hf _ _ _ _ (fun o3 g3 n3 W3 u3 h3 => ?_)))))
    exact ret_msg hu u0 x6u u3 h3 zeroM (fun g' u' h' => aRet_of (Sub.refl _) (hK _ _ _ _ (ug.trans u') h'))
  refine wEql (kSp_d (fun k2 => ?_) (fun k2 => ?_))
  · have e : S.do x = ((S.reach x.core x.line).1, 0, (S.reach x.core x.line).2, zeroM, 0) := by unfold Sys.do; rw [if_neg k0, if_neg k1, if_pos k2]
    rw [e] at hK
    refine kLd_of x3 d1 (kLd_of x3 d2 (SReach_spec h2 hf (fun i N line hN => ((hw.nd i N hN).gd.reach hk line).ok) _ _ (fun o3 g3 n3 W3 u3 h3 => ?_)))
    exact ret_msg hu u0 x6u u3 h3 zeroM (fun g' u' h' => aRet_of (Sub.refl _) (hK _ _ _ _ (ug.trans u') h'))
  refine wEql (kSp_d (fun k3 => ?_) (fun k3 => ?_))
  · have e : S.do x = ((S.flush x.core x.line (fKind x.val)).1, 0, false, zeroM, (S.flush x.core x.line (fKind x.val)).2) := by unfold Sys.do; rw [if_neg k0, if_neg k1, if_neg k2, if_pos k3]
    rw [e] at hK
    refine kLd_of x3 d1 (kLd_of x3 d2 (kLd_of x3 d4 ⟨rfl, by decide, ?_⟩))
    show kBin .int .add (.int .i64 4) (.int .i64 (IntKind.i64.wrap (x.val.tmod 2))) _
    rw [kBin_add]
    show AC mesi_System_Flush_id [ptr l 0, .int .i64 x.core, .int .i64 x.line, .int .i64 (fKind x.val)] g2 _ _
    refine SFlush_spec h2 _ _ _ (fun o3 g3 n3 W3 u3 h3 => ?_)
    exact ret_msg hu u0 x6u u3 h3 zeroM (fun g' u' h' => aRet_of (Sub.refl _) (hK _ _ _ _ (ug.trans u') h'))
  refine wEql (kSp_d (fun k4 => ?_) (fun k4 => ?_))
  · have e : S.do x = ((S.up x.core).1, 0, false, zeroM, (S.up x.core).2) := by unfold Sys.do; rw [if_neg k0, if_neg k1, if_neg k2, if_neg k3, if_pos k4]
    rw [e] at hK
    refine kLd_of x3 d1 (SUp_spec h2 hs hup _ (fun o3 g3 n3 W3 u3 h3 => ?_))
    exact ret_msg hu u0 x6u u3 h3 zeroM (fun g' u' h' => aRet_of (Sub.refl _) (hK _ _ _ _ (ug.trans u') h'))
  refine wEql (kSp_d (fun k5 => ?_) (fun k5 => ?_))
  · have e : S.do x = ((S.answer x.core).1, 0, false, zeroM, (S.answer x.core).2) := by unfold Sys.do; rw [if_neg k0, if_neg k1, if_neg k2, if_neg k3, if_neg k4, if_pos k5]
    rw [e] at hK
    refine kLd_of x3 d1 (SAnswer_spec h2 hans _ (fun o3 g3 n3 W3 u3 h3 => ?_))
    exact ret_msg hu u0 x6u u3 h3 zeroM (fun g' u' h' => aRet_of (Sub.refl _) (hK _ _ _ _ (ug.trans u') h'))
  refine wEql (kSp_d (fun k6 => ?_) (fun k6 => ?_))
  · have e : S.do x = ((S.hear x.core).1, 0, false, (S.hear x.core).2.1, (S.hear x.core).2.2) := by unfold Sys.do; rw [if_neg k0, if_neg k1, if_neg k2, if_neg k3, if_neg k4, if_neg k5, if_pos k6]
    rw [e] at hK
    refine kLd_of x3 d1 (SHear_spec h2 hf _ (fun o3 g3 n3 W3 u3 h3 => ?_))
    simp only [kExtract_t, kGet_zero, kGet_succ, kAgg_a]
    intro hn
    have s4 := (Sub.refl g3).new hn (some (.cells (encM zeroM) .exact))
    have x4 : upd g3 n3 (some (.cells (encM zeroM) .exact)) n3 = some (.cells (encM zeroM) .exact) := upd_same _ _ _
    refine stMm x4 ?_
    have s5 : Sub g3 (upd (upd g3 n3 (some (.cells (encM zeroM) .exact))) n3 (some (.cells (encM (S.hear x.core).2.1) .exact))) := s4.upd_fresh _ hn
    refine ldM (upd_same _ _ _) ?_
    exact ret_msg hu u0 x6u (u3.trans (Sub.uncs h3.live s5)) (h3.mono s5) _ (fun g' u' h' => aRet_of (Sub.refl _) (hK _ _ _ _ (ug.trans u') h'))
  refine wEql (kSp_d (fun k7 => ?_) (fun k7 => ?_))
  · have e : S.do x = ((S.push x.line).1, 0, false, zeroM, (S.push x.line).2) := by unfold Sys.do; rw [if_neg k0, if_neg k1, if_neg k2, if_neg k3, if_neg k4, if_neg k5, if_neg k6, if_pos k7]
    rw [e] at hK
    refine kLd_of x3 d2 (SPush_spec h2 hs _ (fun o3 g3 n3 W3 u3 h3 => ?_))
    exact ret_msg hu u0 x6u u3 h3 zeroM (fun g' u' h' => aRet_of (Sub.refl _) (hK _ _ _ _ (ug.trans u') h'))
  refine wEql (kSp_d (fun k8 => ?_) (fun k8 => ?_))
  · have e : S.do x = ((S.evict x.core x.line).1, 0, false, zeroM, (S.evict x.core x.line).2) := by unfold Sys.do; rw [if_neg k0, if_neg k1, if_neg k2, if_neg k3, if_neg k4, if_neg k5, if_neg k6, if_neg k7, if_pos k8]
    rw [e] at hK
    refine kLd_of x3 d1 (kLd_of x3 d2 (SEvict_spec h2 hf _ _ (fun o3 g3 n3 W3 u3 h3 => ?_)))
    exact ret_msg hu u0 x6u u3 h3 zeroM (fun g' u' h' => aRet_of (Sub.refl _) (hK _ _ _ _ (ug.trans u') h'))
  refine wEql (kSp_d (fun k9 => ?_) (fun k9 => ?_))
  · have e : S.do x = ((S.drop x.line).1, 0, false, zeroM, (S.drop x.line).2) := by unfold Sys.do; rw [if_neg k0, if_neg k1, if_neg k2, if_neg k3, if_neg k4, if_neg k5, if_neg k6, if_neg k7, if_neg k8, if_pos k9]
    rw [e] at hK
    refine kLd_of x3 d2 (SDrop_spec h2 hs _ (fun o3 g3 n3 W3 u3 h3 => ?_))
    exact ret_msg hu u0 x6u u3 h3 zeroM (fun g' u' h' => aRet_of (Sub.refl _) (hK _ _ _ _ (ug.trans u') h'))
  refine wEql (kSp_d (fun k10 => ?_) (fun k10 => ?_))
  · have e : S.do x = ((S.drain x.line).1, 0, false, zeroM, (S.drain x.line).2) := by unfold Sys.do; rw [if_neg k0, if_neg k1, if_neg k2, if_neg k3, if_neg k4, if_neg k5, if_neg k6, if_neg k7, if_neg k8, if_neg k9, if_pos k10]
    rw [e] at hK
    refine kLd_of x3 d2 (SDrain_spec h2 hs _ (fun o3 g3 n3 W3 u3 h3 => ?_))
    exact ret_msg hu u0 x6u u3 h3 zeroM (fun g' u' h' => aRet_of (Sub.refl _) (hK _ _ _ _ (ug.trans u') h'))
  have fin : ∀ (t : Env) (o3 : Col Cl) (g3 : G) (n3 : Nat) (W3 : SysW) (S3 : Sys), t 6 = ptr (n + 1) 0 → Sub (unc o g2) (unc o3 g3) → SysH o3 g3 l W3 S3 → S.do x = (S3, 0, false, zeroM, 0) → bellowslaw09_do_j1 AC K t g3 n3 := by
    intro t o3 g3 n3 W3 S3 t6 u3 h3 e
    rw [e] at hK
    simp only [bellowslaw09_do_j1, t6, kPtr_p, kAgg_a, zMs, kFill_nil]
    exact ret_msg hu u0 x6u u3 h3 zeroM (fun g' u' h' => aRet_of (Sub.refl _) (hK _ _ _ _ (ug.trans u') h'))
  refine wEql (kSp_d (fun k11 => ?_) (fun k11 => ?_))
  · refine SFail_spec h2 hs hc (fun o3 g3 n3 W3 u3 h3 => fin _ o3 g3 n3 W3 _ rfl u3 h3 ?_)
    unfold Sys.do; rw [if_neg k0, if_neg k1, if_neg k2, if_neg k3, if_neg k4, if_neg k5, if_neg k6, if_neg k7, if_neg k8, if_neg k9, if_neg k10, if_pos k11]
  · refine fin _ o g2 _ W _ rfl (Sub.refl _) h2 ?_
    unfold Sys.do; rw [if_neg k0, if_neg k1, if_neg k2, if_neg k3, if_neg k4, if_neg k5, if_neg k6, if_neg k7, if_neg k8, if_neg k9, if_neg k10, if_neg k11]
end
end Go.Proofs.YtjpckcikmfihlaaGreat.Gen

namespace Go.Proofs.YtjpckcikmfihlaaGreat.Gen
open Go Go.Proofs.YtjpckcikmfihlaaGreat.Abs Go.RowKit
variable {g : G} {n : Nat}
theorem sends_c (line : Int) : ∀ (l : List Snd) (S : Sys), (S.sends line l).c = S.c
  | [], S => rfl
  | x :: l, S => (sends_c line l (S.send1 line x)).trans (send1_c S line x)
theorem ite_c {p : Prop} [Decidable p] {c : Cfg} {a b : Sys × Int × Bool × Ms × Int} (h1 : a.1.c = c) (h2 : b.1.c = c) : (if p then a else b).1.c = c := by
  by_cases h : p
  · rw [if_pos h]; exact h1
  · rw [if_neg h]; exact h2
theorem do_c (S : Sys) (x : Stp) : (S.do x).1.c = S.c := by
  unfold Sys.do
  refine ite_c ?_ (ite_c ?_ (ite_c ?_ (ite_c ?_ (ite_c ?_ (ite_c ?_ (ite_c ?_ (ite_c ?_ (ite_c ?_ (ite_c ?_ (ite_c ?_ (ite_c ?_ ?_)))))))))))
  · show (S.load _ _ _).1.c = _; unfold Sys.load; repeat' split
    all_goals rfl
  · show (S.store _ _ _ _).1.c = _; unfold Sys.store; repeat' split
    all_goals rfl
  · show (S.reach _ _).1.c = _; unfold Sys.reach; repeat' split
    all_goals rfl
  · show (S.flush _ _ _).1.c = _; unfold Sys.flush; repeat' split
    all_goals rfl
  · show (S.up _).1.c = _; unfold Sys.up; repeat' split
    all_goals first | rfl | exact here_c _ _ _ | exact (sends_c _ _ _).trans (here_c _ _ _)
  · show (S.answer _).1.c = _; unfold Sys.answer; repeat' split
    all_goals first | rfl | exact sends_c _ _ _
  · show (S.hear _).1.c = _; unfold Sys.hear; repeat' split
    all_goals rfl
  · show (S.push _).1.c = _; unfold Sys.push; repeat' split
    all_goals first | rfl | exact write_c _ _ _ | exact (sends_c _ _ _).trans (write_c _ _ _)
  · show (S.evict _ _).1.c = _; unfold Sys.evict; repeat' split
    all_goals rfl
  · show (S.drop _).1.c = _; unfold Sys.drop; repeat' split
    all_goals first | rfl | exact write_c _ _ _
  · show (S.drain _).1.c = _; unfold Sys.drain; repeat' split
    all_goals rfl
  · rfl
  · rfl
/-! what a failure leaves -/
theorem puts_mem : ∀ (es : List En) (D : Dev), inR es D.mem.length → (D.puts es).mem = over es D.mem ∧ (D.puts es).vol = D.vol
  | [], D, _ => ⟨rfl, rfl⟩
  | e :: es, D, h => by
    have he := h e (List.mem_cons_self ..)
    have e1 : D.put e.line e.data = ⟨D.mem.set e.line.toNat e.data, D.vol⟩ := by
      unfold Dev.put
      rw [if_pos (by unfold mayE; rw [if_pos he])]
    have := puts_mem es (D.put e.line e.data) (by rw [e1]; intro x hx; rw [List.length_set]; exact h x (List.mem_cons_of_mem _ hx))
    rw [e1] at this
    show ((D.put e.line e.data).puts es).mem = over es (D.mem.set e.line.toNat e.data) ∧ ((D.put e.line e.data).puts es).vol = _
    rw [e1]
    exact this
section
variable {S : Sys} {k : Nat}
theorem fail_q (S : Sys) : S.fail.q = [] := rfl
theorem fail_mem (h : S.wf k) : S.fail.D.mem = List.replicate S.c.vol.toNat zeroL ++ (over S.q S.D.mem).drop S.c.vol.toNat := by
  obtain ⟨a, b⟩ := puts_mem S.q S.D h.inr
  show List.replicate (S.D.puts S.q).vol zeroL ++ (S.D.puts S.q).mem.drop (S.D.puts S.q).vol = _
  rw [a, b, h.vol]
theorem fail_get {i : Nat} (h : S.wf k) (hi : i < S.c.lines.toNat) : S.fail.D.mem[i]? = if i < S.c.vol.toNat then some zeroL else (over S.q S.D.mem)[i]? := by
  have hv := h.c.vol
  rw [fail_mem h]
  by_cases hlt : i < S.c.vol.toNat
  · rw [if_pos hlt, List.getElem?_append_left (by simpa using hlt), List.getElem?_replicate, if_pos hlt]
  · rw [if_neg hlt, List.getElem?_append_right (by simpa using Nat.not_lt.1 hlt), List.getElem?_drop, List.length_replicate, show S.c.vol.toNat + (i - S.c.vol.toNat) = i by omega]
theorem fail_entry (h : S.wf k) (i : Nat) : (S.fail.entry (i : Nat)).here = false := by
  unfold Sys.entry
  split
  · rfl
  · rename_i j e he
    obtain ⟨_, hi⟩ := Sys.ent_some he
    have : e = emptyEnt := by
      obtain ⟨_, h⟩ := List.getElem?_eq_some_iff.1 (show (List.replicate S.c.lines.toNat emptyEnt)[j]? = some e from hi)
      rw [List.getElem_replicate] at h; exact h.symm
    rw [this]; rfl
theorem fail_at {core : Int} {i : Nat} {N : Nd} (e : S.fail.at core = some (i, N)) : N = nd0 S.c := by
  obtain ⟨_, hi⟩ := Sys.at_some e
  obtain ⟨_, h⟩ := List.getElem?_eq_some_iff.1 (show (List.replicate S.c.cores.toNat (nd0 S.c))[i]? = some N from hi)
  rw [List.getElem_replicate] at h; exact h.symm
theorem fail_queues (core : Int) : S.fail.queues core = ([], [], []) := by
  unfold Sys.queues
  split
  · rfl
  · rename_i i N e; rw [fail_at e]; rfl
theorem arr0_slots (s w : Nat) : (arr0 s w).slots = [] := by
  unfold Arr.slots
  rw [List.filter_eq_nil_iff]
  intro t ht
  rcases List.mem_replicate.1 (show t ∈ List.replicate (s * w) zeroS from ht) with ⟨_, rfl⟩
  simp [zeroS]
theorem fail_slots (core : Int) : S.fail.slots core = [] := by
  unfold Sys.slots
  split
  · rfl
  · rename_i i N e; rw [fail_at e]; exact arr0_slots _ _
end
end Go.Proofs.YtjpckcikmfihlaaGreat.Gen

namespace Go.Proofs.YtjpckcikmfihlaaGreat.Gen
open Go Go.Proofs.YtjpckcikmfihlaaGreat.Abs Go.RowKit
variable {g : G} {n : Nat}
theorem kPart_0 {cs : List Value} {i : Nat} {v : Value} {K : Value → Prop} (h : cs[i]? = some v) (k : K v) : kPart cs i none K := by
  unfold kPart
  exact kGet_of h k
section
variable {o : Col Cl} {l : Nat} {W : SysW} {S : Sys} {K : Cont} {k : Nat}
/-- the last loop: queues and slots of all cores are empty -/
theorem MM_l5 (h : SysH o g l W S.fail) (hw : S.wf k) {l3 : Nat} (h3 : unc o g l3 = some (.cells (encC S.c) .exact)) {t : Env} (t3 : t 3 = ptr l3 0) (t7 : t 7 = ptr l 0) (hK : ∀ g' n', K (.bool true) g' n') : bellowslaw09_MesiMemory_j4 AC K t g n := by
  have hc := hw.c.cores
  have hwf : S.fail.wf 0 := hw.fail 0
  simp only [bellowslaw09_MesiMemory_j4]
  refine lfp_ind (m := S.c.cores.toNat) (Inv := fun q t g9 n9 => ∃ (j : Nat) (W9 : SysW), q + j = S.c.cores.toNat ∧ Sub (unc o g) (unc o g9) ∧ SysH o g9 l W9 S.fail ∧ t 3 = ptr l3 0 ∧ t 7 = ptr l 0 ∧ t 13 = .int .i64 (j : Nat)) ?_
    ⟨0, W, by omega, Sub.refl _, h, t3, t7, rfl⟩
  rintro I q t9 g9 n9 ih ⟨j, W9, hj, u9, h9, t3', t7', t13⟩
  simp only [bellowslaw09_MesiMemory_l5, t3', t7', t13, kPtr_p]
  refine kLd_of ((unc_sub _ _).live (u9.live h3)) (show (encC S.c)[0 + 0]? = some (.int .i64 S.c.cores) from rfl) (wLss (kSp_d (fun hlt => ?_) (fun hlt => ?_)))
  · refine SQueues_spec h9 (fun i N hN => ?_) (j : Nat) (fun v1 v2 v3 g1 n1 W1 u1 h1 q1 q2 q3 => ?_)
    · have := hwf.nd i N hN
      exact ⟨by have := this.up.1; omega, by have := this.ans.1; omega, by have := this.dn.1; omega⟩
    rw [fail_queues] at q1 q2 q3
    simp only [kExtract_t, kGet_zero, kGet_succ]
    refine q1.len (q2.len ?_)
    rw [kBin_add]
    refine q3.len ?_
    rw [kBin_add]
    refine wNeq (kSp_d (fun h => absurd h (by decide)) (fun _ => ?_))
    refine SSlots_spec h1 (hwf.fit (by omega)) (j : Nat) (fun v4 g2 n2 W2 u2 h2 s2 => ?_)
    rw [fail_slots] at s2
    refine s2.len (wNeq (kSp_d (fun h => absurd h (by decide)) (fun _ => ?_)))
    rw [kBin_add, wrapNat (a := j) (by omega)]
    exact ih (q - 1) _ _ _ (by omega) ⟨j + 1, W2, by omega, (u9.trans u1).trans u2, h2, t3', t7', rfl⟩
  · exact wakes_tell (aRet_of (Sub.refl _) (hK _ _))
/-- all lines behind the failure -/
theorem MM_l3 (h : SysH o g l W S.fail) (hw : S.wf k) {l3 : Nat} (h3 : unc o g l3 = some (.cells (encC S.c) .exact)) {v10 v11 : Value} (hwas : Sl encL 8 (unc o g) v10 (over S.q S.D.mem)) (hnow : Sl encL 8 (unc o g) v11 S.fail.D.mem)
    {t : Env} (t3 : t 3 = ptr l3 0) (t7 : t 7 = ptr l 0) (t10 : t 10 = v10) (t11 : t 11 = v11) (t12 : t 12 = .int .i64 0) (hK : ∀ g' n', K (.bool true) g' n') : lfp (bellowslaw09_MesiMemory_l3 AC K) t g n := by
  have hl := hw.c.lines
  have hv := hw.c.vol
  have wl : (over S.q S.D.mem).length = S.c.lines.toNat := (over_len _ _).trans hw.mem
  refine lfp_ind (m := S.c.lines.toNat) (Inv := fun q t g9 n9 => ∃ (j : Nat), q + j = S.c.lines.toNat ∧ Sub (unc o g) (unc o g9) ∧ SysH o g9 l W S.fail ∧ t 3 = ptr l3 0 ∧ t 7 = ptr l 0 ∧ t 10 = v10 ∧ t 11 = v11 ∧ t 12 = .int .i64 (j : Nat)) ?_
    ⟨0, by omega, Sub.refl _, h, t3, t7, t10, t11, t12⟩
  rintro I q t9 g9 n9 ih ⟨j, hj, u9, h9, t3', t7', t10', t11', t12'⟩
  simp only [bellowslaw09_MesiMemory_l3, t3', t7', t10', t11', t12', kPtr_p, kFill_nil]
  have x3 := (unc_sub _ _).live (u9.live h3)
  have dl : (encC S.c)[0 + 1]? = some (.int .i64 S.c.lines) := rfl
  have dv : (encC S.c)[0 + 2]? = some (.int .i64 S.c.vol) := rfl
  refine kLd_of x3 dl (wLss (kSp_d (fun hlt => ?_) (fun hlt => ?_)))
  · have hjl : j < S.c.lines.toNat := by omega
    have hg := fail_get hw hjl
    obtain ⟨wv, hwv⟩ : ∃ x, (over S.q S.D.mem)[j]? = some x := ⟨_, List.getElem?_eq_getElem (by rw [wl]; exact hjl)⟩
    refine kLd_of x3 dv (wLss (kSp_d (fun hv1 => ?_) (fun hv1 => ?_)))
    · rw [if_pos (by omega)] at hg
      refine ((hnow.mono u9).mono (unc_sub _ _)).idx encL_len hg (fun li oi ha => ?_)
      simp only [kPtr_p]
      refine ha.ldN (by rw [encL_len]) ?_
      refine neL _ zeroL _ (kSp_d (fun h => absurd rfl h) (fun _ => ?_))
      refine kLd_of x3 dv (wGeq (kSp_d (fun h => absurd hv1 (by omega)) (fun _ => ?_)))
      refine SEntry_spec h9 (j : Nat) (fun g1 n1 s1 => ?_)
      simp only [kAgg_a]
      refine kPart_0 (ent_0 _) ?_
      rw [fail_entry hw]
      refine kSp_b (fun h => nomatch h) (fun _ => ?_)
      rw [kBin_add, wrapNat (a := j) (by omega)]
      exact ih (q - 1) _ _ _ (by omega) ⟨j + 1, by omega, u9.trans (Sub.uncs h9.live s1), h9.mono s1, t3', t7', t10', t11', rfl⟩
    · rw [if_neg (by omega), hwv] at hg
      refine kLd_of x3 dv (wGeq (kSp_d (fun _ => ?_) (fun h => absurd hv1 (by omega))))
      refine ((hnow.mono u9).mono (unc_sub _ _)).idx encL_len hg (fun li oi ha => ?_)
      simp only [kPtr_p]
      refine ha.ldN (by rw [encL_len]) ?_
      refine ((hwas.mono u9).mono (unc_sub _ _)).idx encL_len hwv (fun li2 oi2 ha2 => ?_)
      simp only [kPtr_p]
      refine ha2.ldN (by rw [encL_len]) ?_
      refine neL wv wv _ (kSp_d (fun h => absurd rfl h) (fun _ => ?_))
      refine SEntry_spec h9 (j : Nat) (fun g1 n1 s1 => ?_)
      simp only [kAgg_a]
      refine kPart_0 (ent_0 _) ?_
      rw [fail_entry hw]
      refine kSp_b (fun h => nomatch h) (fun _ => ?_)
      rw [kBin_add, wrapNat (a := j) (by omega)]
      exact ih (q - 1) _ _ _ (by omega) ⟨j + 1, by omega, u9.trans (Sub.uncs h9.live s1), h9.mono s1, t3', t7', t10', t11', rfl⟩
  · exact MM_l5 h9 hw (u9.live h3) t3' t7' hK
theorem MM_j2 (h : SysH o g l W S) (hw : S.wf k) {l3 : Nat} (h3 : unc o g l3 = some (.cells (encC S.c) .exact)) {t : Env} (t3 : t 3 = ptr l3 0) (t7 : t 7 = ptr l 0) (hK : ∀ g' n', K (.bool true) g' n') : bellowslaw09_MesiMemory_j2 AC K t g n := by
  have hl := hw.c.lines
  have hwf : S.fail.wf 0 := hw.fail 0
  simp only [bellowslaw09_MesiMemory_j2, t3, t7, kPtr_p]
  refine SMemory_spec h hw.shp hw.inr (fun v10 g1 n1 s1 o1 => ?_)
  have h1 := h.mono s1
  have u1 := Sub.uncs h.live s1
  have was := OwnS_unc h.live o1
  refine SFail_spec h1 hw.shp hw.c (fun o2 g2 n2 W2 u2 h2 => ?_)
  refine SMemory_spec h2 hwf.shp hwf.inr (fun v11 g3 n3 s3 o3 => ?_)
  have h3' := h2.mono s3
  have u3 := Sub.uncs h2.live s3
  have now := OwnS_unc h2.live o3
  have was3 := (was.mono u2).mono u3
  have uu := (u1.trans u2).trans u3
  have x3 := (unc_sub _ _).live (uu.live h3)
  have dl : (encC S.c)[0 + 1]? = some (.int .i64 S.c.lines) := rfl
  have nowl : (over S.fail.q S.fail.D.mem).length = S.c.lines.toNat := (over_len _ _).trans hwf.mem
  have wasl : (over S.q S.D.mem).length = S.c.lines.toNat := (over_len _ _).trans hw.mem
  refine was3.len (kLd_of x3 dl (wNeq (kSp_d (fun h => absurd h (by rw [wasl]; omega)) (fun _ => ?_))))
  refine now.len (kLd_of x3 dl (wNeq (kSp_d (fun h => absurd h (by rw [nowl]; omega)) (fun _ => ?_))))
  refine SWaiting_spec h3' hwf.shp (fun v12 g4 n4 s4 o4 => ?_)
  refine o4.sl.len (wNeq (kSp_d (fun h => absurd h (by rw [fail_q]; decide)) (fun _ => ?_)))
  have u4 := Sub.uncs h3'.live s4
  exact MM_l3 (h3'.mono s4) hw ((uu.trans u4).live h3) (was3.mono u4) (now.mono u4) t3 t7 rfl rfl rfl hK
end
theorem MM_spec (c : Cfg) {v1 v2 : Value} {img : List Ln} {steps : List Stp} (h1 : Sl encL 8 g v1 img) (h2 : Sl encStp 5 g v2 steps) {K : Cont} (hK : ∀ g' n', K (.bool true) g' n') : AC bellowslaw09_MesiMemory_id [.agg (encC c).toArray, v1, v2] g n K := by
  refine ACalls.fold X0_mono ?_
  rw [← bellowslaw09_MesiMemory_eq]
  simp only [bellowslaw09_MesiMemory, kAgg_a, kFill_nil]
  intro hn
  have s1 := (Sub.refl g).new hn (some (.cells (encC c) .exact))
  have x1 : upd g n (some (.cells (encC c) .exact)) n = some (.cells (encC c) .exact) := upd_same _ _ _
  generalize upd g n (some (.cells (encC c) .exact)) = g1 at s1 x1 ⊢
  have wk : ∀ g' n', aRet K (.bool true) g' n' := fun g' n' => aRet_of (Sub.refl _) (hK _ _)
  refine (h2.mono s1).len (wGtr (kSp_d (fun _ => wakes_tell (wk _ _)) (fun hlen => ?_)))
  refine kLdN_of x1 (by simp [encC]) ?_
  rw [show ((encC c).drop 0).take 7 = encC c from rfl]
  refine rGood_spec c (fun g2 n2 s2 => wNot (kSp_b (fun _ => wakes_tell (wk _ _)) (fun hg => ?_)))
  have hgood : goodC c = true := by simpa using hg
  have hc := goodC_t hgood
  have hl := hc.lines
  have x2 := s2.live x1
  have s12 := s1.trans s2
  refine (h1.mono s12).len (kLd_of x2 (show (encC c)[0 + 1]? = some (.int .i64 c.lines) from rfl) (wNeq (kSp_d (fun _ => wakes_tell (wk _ _)) (fun hi => ?_))))
  have himg : (img.length : Int) = c.lines := by simpa using hi
  refine kLdN_of x2 (by simp [encC]) ?_
  rw [show ((encC c).drop 0).take 7 = encC c from rfl]
  intro hn3
  have s3 := (Sub.refl g2).new hn3 (some (.cells (reps 0 [.int .u64 0, .int .u64 0, .int .u64 0, .int .u64 0, .int .u64 0, .int .u64 0, .int .u64 0, .int .u64 0]) .exact))
  refine ⟨(s3.live x2).trans x2.symm, ?_⟩
  refine OwnS.append (g0 := g2) (xs := ([] : List Ln)) OwnS.empty s3 ((h1.mono s12).mono s3) encL_cell (by decide) (by simp; omega) (by simp; omega) (fun v' g4 n4 s4 o4 _ _ => ?_)
  rw [List.nil_append] at o4
  refine ⟨(s4.live x2).trans (s3.live x2).symm, ?_⟩
  refine SNew_spec c o4.sl (fun hb => absurd ⟨hgood, .inr himg⟩ hb) (fun _ _ l o5 g5 n5 W5 u5 h5 => ?_)
  simp only [kExtract_t, kGet_zero, kGet_succ]
  refine wNeq (kSp_d (fun h => absurd h (by decide)) (fun _ => ?_))
  refine wNilQ (kSp_b (fun h => nomatch h) (fun _ => ?_))
  have hs5 : Sl encStp 5 (unc o5 g5) v2 steps := ((h2.mono s12).mono s4).mono u5
  have h35 : unc o5 g5 n = some (.cells (encC c) .exact) := u5.live (s4.live x2)
  have hlen' : steps.length ≤ 400 := by omega
  refine lfp_ind (m := steps.length) (Inv := fun q t g9 n9 => ∃ (j : Nat) (o9 : Col Cl) (W9 : SysW) (S9 : Sys), q + j = steps.length ∧ Sub (unc o5 g5) (unc o9 g9) ∧ SysH o9 g9 l W9 S9 ∧ S9.wf j ∧ S9.c = c ∧ t 2 = v2 ∧ t 3 = ptr n 0 ∧ t 7 = ptr l 0 ∧ t 9 = .int .i64 (j : Nat)) ?_
    ⟨0, o5, W5, newSys c img, by omega, Sub.refl _, h5, newSys_wf hc (.inr himg) 0, rfl, rfl, rfl, rfl, rfl⟩
  rintro I q t g9 n9 ih ⟨j, o9, W9, S9, hj, u9, h9, w9, c9, t2, t3, t7, t9⟩
  simp only [bellowslaw09_MesiMemory_l1, t2, t7, t9]
  have hs9 : Sl encStp 5 g9 v2 steps := (hs5.mono u9).mono (unc_sub _ _)
  refine hs9.len (wLss (kSp_d (fun hlt => ?_) (fun hlt => ?_)))
  · obtain ⟨x, hx⟩ : ∃ x, steps[j]? = some x := ⟨_, List.getElem?_eq_getElem (by omega)⟩
    refine hs9.idx encStp_len hx (fun li oi ha => ?_)
    simp only [kPtr_p]
    refine ha.ldN (by rw [encStp_len]) ?_
    refine do_spec h9 w9 (by omega) x (fun o10 g10 n10 W10 u10 h10 => ?_)
    rw [kBin_add, wrapNat (a := j) (by omega)]
    exact ih (q - 1) _ _ _ (by omega) ⟨j + 1, o10, W10, _, by omega, u9.trans u10, h10, w9.do (by omega) x, (do_c _ _).trans c9, t2, t3, t7, rfl⟩
  · exact MM_j2 h9 w9 (by rw [c9]; exact u9.live h35) t3 t7 hK
end Go.Proofs.YtjpckcikmfihlaaGreat.Gen

namespace Go.Proofs.YtjpckcikmfihlaaGreat.Gen
open Go Go.Proofs.YtjpckcikmfihlaaGreat.Abs Go.RowKit
variable {g : G} {n : Nat}
theorem decLn (c : List Value) (h : RepL g [.i .u64, .i .u64, .i .u64, .i .u64, .i .u64, .i .u64, .i .u64, .i .u64] c) : ∃ x, c = encL x := by
  obtain ⟨a1, r1, e1, _, h⟩ := rep_i h
  obtain ⟨a2, r2, e2, _, h⟩ := rep_i h
  obtain ⟨a3, r3, e3, _, h⟩ := rep_i h
  obtain ⟨a4, r4, e4, _, h⟩ := rep_i h
  obtain ⟨a5, r5, e5, _, h⟩ := rep_i h
  obtain ⟨a6, r6, e6, _, h⟩ := rep_i h
  obtain ⟨a7, r7, e7, _, h⟩ := rep_i h
  obtain ⟨a8, r8, e8, _, h⟩ := rep_i h
  have e := rep_nil h
  subst e e8 e7 e6 e5 e4 e3 e2 e1
  exact ⟨⟨[a1, a2, a3, a4, a5, a6, a7, a8], rfl⟩, rfl⟩
theorem decStp (c : List Value) (h : RepL g [.i .i64, .i .i64, .i .i64, .i .i64, .i .u64] c) : ∃ x, c = encStp x := by
  obtain ⟨a1, r1, e1, _, h⟩ := rep_i h
  obtain ⟨a2, r2, e2, _, h⟩ := rep_i h
  obtain ⟨a3, r3, e3, _, h⟩ := rep_i h
  obtain ⟨a4, r4, e4, _, h⟩ := rep_i h
  obtain ⟨a5, r5, e5, _, h⟩ := rep_i h
  have e := rep_nil h
  subst e e5 e4 e3 e2 e1
  exact ⟨⟨a1, a2, a3, a4, a5⟩, rfl⟩
theorem decCfg (c : List Value) (h : RepL g [.i .i64, .i .i64, .i .i64, .i .i64, .i .i64, .i .i64, .i .i64] c) : ∃ x, c = encC x := by
  obtain ⟨a1, r1, e1, _, h⟩ := rep_i h
  obtain ⟨a2, r2, e2, _, h⟩ := rep_i h
  obtain ⟨a3, r3, e3, _, h⟩ := rep_i h
  obtain ⟨a4, r4, e4, _, h⟩ := rep_i h
  obtain ⟨a5, r5, e5, _, h⟩ := rep_i h
  obtain ⟨a6, r6, e6, _, h⟩ := rep_i h
  obtain ⟨a7, r7, e7, _, h⟩ := rep_i h
  have e := rep_nil h
  subst e e7 e6 e5 e4 e3 e2 e1
  exact ⟨⟨a1, a2, a3, a4, a5, a6, a7⟩, rfl⟩
theorem MesiMemory_row {args : List Value} (hr : RepAs g [(true, [.i .i64, .i .i64, .i .i64, .i .i64, .i .i64, .i .i64, .i .i64]), (false, [.s [.i .u64, .i .u64, .i .u64, .i .u64, .i .u64, .i .u64, .i .u64, .i .u64]]), (false, [.s [.i .i64, .i .i64, .i .i64, .i .i64, .i .u64]])] args) {K : Cont} (hK : ∀ g' n', K (.bool true) g' n') : AC bellowslaw09_MesiMemory_id args g n K := by
  cases hr with
  | cons h1 hr =>
  cases hr with
  | cons h2 hr =>
  cases hr with
  | cons h3 hr =>
  cases hr
  obtain ⟨cs, e, h1⟩ := h1
  obtain ⟨c, e1⟩ := decCfg _ h1
  obtain ⟨v2, r2, e2, h2, h2'⟩ := rep_s h2
  have e2' := rep_nil h2'
  obtain ⟨v3, r3, e3, h3, h3'⟩ := rep_s h3
  have e3' := rep_nil h3'
  subst e3' e2'
  cases e3
  cases e2
  subst e1 e
  obtain ⟨img, hi, _⟩ := rep_sl decLn h2
  obtain ⟨steps, hs, _⟩ := rep_sl decStp h3
  exact MM_spec c hi hs hK
end Go.Proofs.YtjpckcikmfihlaaGreat.Gen
