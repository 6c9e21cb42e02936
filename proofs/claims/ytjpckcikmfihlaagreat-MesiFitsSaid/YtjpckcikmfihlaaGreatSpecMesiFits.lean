import Derived.Test.YtjpckcikmfihlaaGreatSpecMesiFitsC
/- What the functions come to. -/
set_option linter.all false
set_option linter.deprecated false
namespace Go.Proofs.YtjpckcikmfihlaaGreat.Gen
open Go Go.Proofs.YtjpckcikmfihlaaGreat.Abs Go.RowKit
variable {g : G} {n : Nat}
theorem unc_live' {o : Col Cl} {l : Nat} {b : Blk} (h : unc o g l = some b) : g l = some b := (unc_sub _ _).live h
section
variable {S : Sys} {k : Nat} {Vs : Nat → Ln}
theorem Sys.wf.at (h : S.wf k) {core : Int} (h0 : 0 ≤ core) (h1 : core < S.c.cores) : S.at core ≠ none := by
  have := h.node h0 h1
  unfold Sys.at
  rw [if_pos h0,this]
  exact fun a => nomatch a
theorem do_fits (h : S.pr k Vs) (hk : k < 900) (x : Stp) (h0 : 0 ≤ x.core) (h1 : x.core < S.c.cores) :
    (x.kind = 4 → (S.do x).2.2.2.2 = 0 ∨ (S.do x).2.2.2.2 = 14 ∨ (S.do x).2.2.2.2 = 15) ∧ (x.kind = 5 → (S.do x).2.2.2.2 = 0 ∨ (S.do x).2.2.2.2 = 14) ∧
    (x.kind = 6 → ((S.do x).2.2.2.2 = 0 ∨ (S.do x).2.2.2.2 = 14) ∧ ((S.do x).2.2.2.2 = 0 → (S.do x).2.2.2.1.kind ≠ 14 → S.slots x.core ≠ (S.do x).1.slots x.core)) := by
  have hat := h.wf.at h0 h1
  refine ⟨fun e => ?_,fun e => ?_,fun e => ?_⟩
  · have e1 : S.do x = ((S.up x.core).1,0,false,zeroM,(S.up x.core).2) := by unfold Sys.do; rw [if_neg (by omega),if_neg (by omega),if_neg (by omega),if_neg (by omega),if_pos e]
    rw [e1]
    rcases (pr_up h hk x.core).2 with ⟨a,_⟩ | a
    · exact absurd a hat
    · exact a
  · have e1 : S.do x = ((S.answer x.core).1,0,false,zeroM,(S.answer x.core).2) := by unfold Sys.do; rw [if_neg (by omega),if_neg (by omega),if_neg (by omega),if_neg (by omega),if_neg (by omega),if_pos e]
    rw [e1]
    rcases (pr_answer h hk x.core).2 with ⟨a,_⟩ | a
    · exact absurd a hat
    · exact a
  · have e1 : S.do x = ((S.hear x.core).1,0,false,(S.hear x.core).2.1,(S.hear x.core).2.2) := by unfold Sys.do; rw [if_neg (by omega),if_neg (by omega),if_neg (by omega),if_neg (by omega),if_neg (by omega),if_neg (by omega),if_pos e]
    rw [e1]
    show ((S.hear x.core).2.2 = 0 ∨ (S.hear x.core).2.2 = 14) ∧ ((S.hear x.core).2.2 = 0 → (S.hear x.core).2.1.kind ≠ 14 → S.slots x.core ≠ (S.hear x.core).1.slots x.core)
    have hw := (h.wf.hear (by omega) x.core)
    rcases (pr_hear h hk x.core).2 with a | a | ⟨i,N,m,r,ha,hd,a1,a2,a3⟩
    · exfalso
      cases hx : S.at x.core with
      | none => exact hat hx
      | some p =>
        obtain ⟨i,N⟩ := p
        unfold Sys.hear at a
        rw [hx] at a
        simp only at a
        cases hd : N.dn with
        | nil => rw [hd] at a; simp only [Prod.mk.injEq] at a; omega
        | cons m r =>
          have := (pr_hear h hk x.core).2
          rw [hd] at a
          simp only [Prod.mk.injEq] at a
          obtain ⟨_,b2,b3⟩ := a
          obtain ⟨hc,hN⟩ := Sys.at_some hx
          have hq := (h.qu i N hN).dn m (by rw [hd]; simp)
          rw [b2] at hq
          exact absurd hq.1 (by decide +kernel)
    · rw [a]; exact ⟨.inr rfl,fun b => absurd (show (14 : Int) = 0 from b) (by decide)⟩
    · refine ⟨.inl a2,fun _ hkd => ?_⟩
      rw [a1] at hkd
      obtain ⟨hc,hN⟩ := Sys.at_some ha
      have hn := h.wf.nd i N hN
      have hu := hn.gd.used
      have e2 : (S.hear x.core).1 = S.setN i { N with A := (N.A.hear m).2.1,dn := r,ans := pushAll N.ans (N.A.hear m).1 } := by
        unfold Sys.hear; rw [ha]; simp only; rw [hd]
      have s1 : S.slots x.core = N.A.slots := by unfold Sys.slots; rw [ha]
      have s2 : (S.hear x.core).1.slots x.core = (N.A.hear m).2.1.slots := by
        rw [e2]
        unfold Sys.slots
        rw [hc,Sys.at_of (setN_get hN)]
      rw [s1,s2]
      intro he
      have g' := hn.gd.hear (by omega) m
      have := slots_slot hn.gd.ok hn.gd.wf g'.ok g'.wf he m.line
      exact a3 hkd (by rw [this])
end
def FitsI (g0 : G) (l2 l : Nat) (v2 : Value) (c : Cfg) (j : Nat) (t : Env) (g : G) : Prop :=
  ∃ (o : Col Cl) (W : SysW) (S : Sys) (Vs : Nat → Ln),Sub g0 (unc o g) ∧ SysH o g l W S ∧ S.pr j Vs ∧ S.c = c ∧ t 1 = v2 ∧ t 2 = ptr l2 0 ∧ t 5 = ptr l 0 ∧ t 7 = .int .i64 (j : Nat)
set_option maxRecDepth 100000 in
set_option maxHeartbeats 1000000 in
theorem MF_spec (c : Cfg) {v2 : Value} {steps : List Stp} (h2 : Sl encStp 5 g v2 steps) {K : Cont} (hK : ∀ g' n',K (.bool true) g' n') : AC bellowslaw09_MesiFits_id [.agg (encC c).toArray,v2] g n K := by
  refine ACalls.fold X0_mono ?_
  rw [← bellowslaw09_MesiFits_eq]
  simp only [bellowslaw09_MesiFits,kAgg_a]
  intro hn
  have s1 := (Sub.refl g).new hn (some (.cells (encC c) .exact))
  have x1 : upd g n (some (.cells (encC c) .exact)) n = some (.cells (encC c) .exact) := upd_same _ _ _
  generalize upd g n (some (.cells (encC c) .exact)) = g1 at s1 x1 ⊢
  have wk : ∀ g' n',aRet K (.bool true) g' n' := fun g' n' => aRet_of (Sub.refl _) (hK _ _)
  refine (h2.mono s1).len (wGtr (kSp_d (fun _ => wakes_tell wk) (fun hlen => ?_)))
  refine kLdN_of x1 (by simp [encC]) ?_
  rw [show ((encC c).drop 0).take 7 = encC c from rfl]
  refine rGood_spec c (fun g2 n2 s2 => wNot (kSp_b (fun _ => wakes_tell wk) (fun hg => ?_)))
  have hgood : goodC c = true := by simpa using hg
  have hc := goodC_t hgood
  have x2 := s2.live x1
  refine kLdN_of x2 (by simp [encC]) ?_
  rw [show ((encC c).drop 0).take 7 = encC c from rfl]
  refine SNew_spec c (img := []) Sl.nil (fun hb => absurd ⟨hgood,.inl rfl⟩ hb) (fun _ _ l o5 g5 n5 W5 u5 h5 => ?_)
  simp only [kExtract_t,kGet_zero,kGet_succ]
  refine wNeq (kSp_d (fun h => absurd h (by decide)) (fun _ => ?_))
  refine wNilQ (kSp_b (fun h => nomatch h) (fun _ => ?_))
  have hs5 : Sl encStp 5 (unc o5 g5) v2 steps := (h2.mono (s1.trans s2)).mono u5
  have h35 : unc o5 g5 n = some (.cells (encC c) .exact) := u5.live x2
  have hlen' : steps.length ≤ 400 := by omega
  refine lfp_ind (m := steps.length) (Inv := fun q t g9 n9 => ∃ (j : Nat),q + j = steps.length ∧ FitsI (unc o5 g5) n l v2 c j t g9) ?_
    ⟨0,by omega,o5,W5,newSys c [],fun _ => zeroL,Sub.refl _,h5,newSys_pr hc 0,rfl,rfl,rfl,rfl,rfl⟩
  rintro I q t g9 n9 ih ⟨j,hj,o9,W9,S9,Vs,u9,h9,p9,c9,t1,t2,t5,t7⟩
  simp only [bellowslaw09_MesiFits_l1,t1,t2,t5,t7,kPtr_p]
  have hs9 : Sl encStp 5 g9 v2 steps := (hs5.mono u9).mono (unc_sub _ _)
  refine hs9.len (wLss (kSp_d (fun hlt => ?_) (fun hlt => wakes_tell wk)))
  obtain ⟨x,hx⟩ : ∃ x,steps[j]? = some x := ⟨_,List.getElem?_eq_getElem (by omega)⟩
  refine hs9.idx encStp_len hx (fun li oi ha => ?_)
  simp only [kPtr_p]
  refine ha.ldN (by rw [encStp_len]) ?_
  intro hn7
  have s7 := (Sub.refl g9).new hn7 (some (.cells (encStp ⟨0,0,0,0,0⟩) .exact))
  have x7 : upd g9 n9 (some (.cells (encStp ⟨0,0,0,0,0⟩) .exact)) n9 = some (.cells (encStp ⟨0,0,0,0,0⟩) .exact) := upd_same _ _ _
  have e0 : [Value.int .i64 0,.int .i64 0,.int .i64 0,.int .i64 0,.int .u64 0] = encStp ⟨0,0,0,0,0⟩ := rfl
  simp only [kAgg_a,e0]
  refine ⟨encStp_len _,kStN_of x7 rfl (by rw [encStp_len,encStp_len]; decide) (by intro v hv; simp [encStp] at hv; rcases hv with rfl | rfl | rfl | rfl | rfl <;> rfl) ?_⟩
  rw [show splice (encStp ⟨0,0,0,0,0⟩) 0 (encStp x) = encStp x from rfl]
  have s8 : Sub g9 (upd (upd g9 n9 (some (.cells (encStp ⟨0,0,0,0,0⟩) .exact))) n9 (some (.cells (encStp x) .exact))) := s7.upd_fresh _ hn7
  have x8 : upd (upd g9 n9 (some (.cells (encStp ⟨0,0,0,0,0⟩) .exact))) n9 (some (.cells (encStp x) .exact)) n9 = some (.cells (encStp x) .exact) := upd_same _ _ _
  have o8 : o9 n9 = none := h9.live.fresh hn7
  generalize upd (upd g9 n9 (some (.cells (encStp ⟨0,0,0,0,0⟩) .exact))) n9 (some (.cells (encStp x) .exact)) = g8 at s8 x8 ⊢
  have h8 := h9.mono s8
  have us8 := u9.trans (Sub.uncs h9.live s8)
  have x8u : unc o9 g8 n9 = some (.cells (encStp x) .exact) := by rw [unc_none o8]; exact x8
  have x2' := (unc_sub _ _).live (us8.live h35)
  have d0 : (encStp x)[0 + 0]? = some (.int .i64 x.kind) := rfl
  have d1 : (encStp x)[0 + 1]? = some (.int .i64 x.core) := rfl
  have go : ∀ (t' : Env) (g' : G) (n' : Nat) (o' : Col Cl) (W' : SysW) (S' : Sys) (Vs' : Nat → Ln),Sub (unc o5 g5) (unc o' g') → SysH o' g' l W' S' → S'.pr (j + 1) Vs' → S'.c = c → t' 1 = v2 → t' 2 = ptr n 0 → t' 5 = ptr l 0 → t' 7 = .int .i64 (j : Nat) → bellowslaw09_MesiFits_j2 AC K I t' g' n' := by
    intro t' g' n' o' W' S' Vs' a1 a2 a3 a4 b1 b2 b5 b7
    simp only [bellowslaw09_MesiFits_j2,b7]
    rw [kBin_add,wrapNat (a := j) (by omega)]
    exact ih (q - 1) _ _ _ (by omega) ⟨j + 1,by omega,o',W',S',Vs',a1,a2,a3,a4,b1,b2,b5,rfl⟩
  have skip : ∀ (t' : Env) (n' : Nat),t' 1 = v2 → t' 2 = ptr n 0 → t' 5 = ptr l 0 → t' 7 = .int .i64 (j : Nat) → bellowslaw09_MesiFits_j2 AC K I t' g8 n' := fun t' n' b1 b2 b5 b7 => go t' g8 n' o9 W9 S9 Vs us8 h8 (p9.le (by omega)) c9 b1 b2 b5 b7
  refine kLd_of x8 d1 (wLss (kSp_d (fun hc0 => skip _ _ t1 t2 t5 t7) (fun hc0 => ?_)))
  refine kLd_of x8 d1 (kLd_of x2' (show (encC c)[0 + 0]? = some (.int .i64 c.cores) from rfl) (wGeq (kSp_d (fun hc1 => skip _ _ t1 t2 t5 t7) (fun hc1 => ?_))))
  refine kLd_of x8 d1 (SSlots_spec h8 (p9.wf.fit (by omega)) x.core (fun v10 g10 n10 W10 u10 h10 sl => ?_))
  have y10 := u10.live x8u
  refine kLdN_of (unc_live' y10) (by rw [encStp_len]; decide) ?_
  rw [show ((encStp x).drop 0).take 5 = encStp x from rfl]
  refine do_spec h10 p9.wf (by omega) x (fun o11 g11 n11 W11 u11 h11 => ?_)
  have p11 := pr_do p9 (by omega) x
  have c11 : (S9.do x).1.c = c := (do_c S9 x).trans c9
  simp only [kExtract_t,kGet_zero,kGet_succ,kAgg_a,zMs]
  intro hn12
  have s12 := (Sub.refl g11).new hn12 (some (.cells (encM zeroM) .exact))
  refine stMm (upd_same _ _ _) ?_
  have s13 : Sub g11 (upd (upd g11 n11 (some (.cells (encM zeroM) .exact))) n11 (some (.cells (encM (S9.do x).2.2.2.1) .exact))) := s12.upd_fresh _ hn12
  have x13 : upd (upd g11 n11 (some (.cells (encM zeroM) .exact))) n11 (some (.cells (encM (S9.do x).2.2.2.1) .exact)) n11 = some (.cells (encM (S9.do x).2.2.2.1) .exact) := upd_same _ _ _
  generalize upd (upd g11 n11 (some (.cells (encM zeroM) .exact))) n11 (some (.cells (encM (S9.do x).2.2.2.1) .exact)) = g13 at s13 x13 ⊢
  have h13 := h11.mono s13
  have u13 := u11.trans (Sub.uncs h11.live s13)
  have us13 := (us8.trans u10).trans u13
  have y13 := unc_live' (u13.live y10)
  have sl13 := sl.mono u13
  obtain ⟨f4,f5,f6⟩ := do_fits p9 (by omega) x (by omega) (by rw [c9]; omega)
  generalize hcode : (S9.do x).2.2.2.2 = code at f4 f5 f6
  generalize hmsg : (S9.do x).2.2.2.1 = msg at f6 x13
  generalize hS : (S9.do x).1 = S13 at f6 h13 p11 c11
  have next : ∀ (t' : Env) (n' : Nat),t' 1 = v2 → t' 2 = ptr n 0 → t' 5 = ptr l 0 → t' 7 = .int .i64 (j : Nat) → bellowslaw09_MesiFits_j2 AC K I t' g13 n' := fun t' n' b1 b2 b5 b7 => go t' g13 n' o11 W11 S13 _ us13 h13 p11 c11 b1 b2 b5 b7
  refine kLd_of y13 d0 (wEql (kSp_d (fun k4 => ?_) (fun k4 => ?_)))
  · refine wNeq (kSp_d (fun a => wNeq (kSp_d (fun b => wNeq (kSp_d (fun e => ?_) (fun _ => next _ _ t1 t2 t5 t7))) (fun _ => next _ _ t1 t2 t5 t7))) (fun _ => next _ _ t1 t2 t5 t7))
    rcases f4 k4 with h | h | h
    · exact absurd h a
    · exact absurd h b
    · exact absurd h e
  refine wEql (kSp_d (fun k5 => ?_) (fun k5 => ?_))
  · refine wNeq (kSp_d (fun a => wNeq (kSp_d (fun b => ?_) (fun _ => next _ _ t1 t2 t5 t7))) (fun _ => next _ _ t1 t2 t5 t7))
    rcases f5 k5 with h | h
    · exact absurd h a
    · exact absurd h b
  refine wEql (kSp_d (fun k6 => ?_) (fun k6 => next _ _ t1 t2 t5 t7))
  obtain ⟨f6a,f6b⟩ := f6 k6
  have tail : ∀ (tA tB tC : Value → Value → Env) (tD : Value → Value → Value → Env) (nn : Nat),True := fun _ _ _ _ _ => trivial
  clear tail
  have cmp : (hz : code = 0) → (hk14 : msg.kind ≠ 14) → S9.slots x.core ≠ S13.slots x.core := fun hz hk14 => f6b hz hk14
  have hsl : (S9.slots x.core).length < 1000000 := by
    unfold Sys.slots
    split
    · simp
    · rename_i i N e
      have := slotsN (p9.wf.nd i N (Sys.at_some e).2).gd.ok
      omega
  have p13 : S13.fit := p11.wf.fit (by omega)
  refine wNeq (kSp_d (fun a => wNeq (kSp_d (fun b => ?_) (fun _ => ?_))) (fun a => ?_))
  · rcases f6a with h | h
    · exact absurd h a
    · exact absurd h b
  · refine wEql (kSp_d (fun e => absurd e a) (fun _ => next _ _ t1 t2 t5 t7))
  · refine wEql (kSp_d (fun e => ?_) (fun _ => next _ _ t1 t2 t5 t7))
    refine ldM0 x13 (wNeq (kSp_d (fun hk14 => ?_) (fun _ => next _ _ t1 t2 t5 t7)))
    refine kLd_of y13 d1 (same_spec h13 p13 sl13 hsl x.core (fun g14 n14 W14 u14 h14 => ?_))
    rw [decide_eq_false (cmp e hk14)]
    refine kSp_b (fun h => nomatch h) (fun _ => ?_)
    exact go _ _ _ _ _ _ _ (us13.trans u14) h14 p11 c11 t1 t2 t5 t7
end Go.Proofs.YtjpckcikmfihlaaGreat.Gen
namespace Go.Proofs.YtjpckcikmfihlaaGreat.Gen
open Go Go.Proofs.YtjpckcikmfihlaaGreat.Abs Go.RowKit
variable {g : G} {n : Nat}
theorem decStp (c : List Value) (h : RepL g [.i .i64,.i .i64,.i .i64,.i .i64,.i .u64] c) : ∃ x,c = encStp x := by
  obtain ⟨a1,r1,e1,_,h⟩ := rep_i h
  obtain ⟨a2,r2,e2,_,h⟩ := rep_i h
  obtain ⟨a3,r3,e3,_,h⟩ := rep_i h
  obtain ⟨a4,r4,e4,_,h⟩ := rep_i h
  obtain ⟨a5,r5,e5,_,h⟩ := rep_i h
  have e := rep_nil h
  subst e e5 e4 e3 e2 e1
  exact ⟨⟨a1,a2,a3,a4,a5⟩,rfl⟩
theorem decCfg (c : List Value) (h : RepL g [.i .i64,.i .i64,.i .i64,.i .i64,.i .i64,.i .i64,.i .i64] c) : ∃ x,c = encC x := by
  obtain ⟨a1,r1,e1,_,h⟩ := rep_i h
  obtain ⟨a2,r2,e2,_,h⟩ := rep_i h
  obtain ⟨a3,r3,e3,_,h⟩ := rep_i h
  obtain ⟨a4,r4,e4,_,h⟩ := rep_i h
  obtain ⟨a5,r5,e5,_,h⟩ := rep_i h
  obtain ⟨a6,r6,e6,_,h⟩ := rep_i h
  obtain ⟨a7,r7,e7,_,h⟩ := rep_i h
  have e := rep_nil h
  subst e e7 e6 e5 e4 e3 e2 e1
  exact ⟨⟨a1,a2,a3,a4,a5,a6,a7⟩,rfl⟩
theorem two_args {args : List Value} (hr : RepAs g [(true,[.i .i64,.i .i64,.i .i64,.i .i64,.i .i64,.i .i64,.i .i64]),(false,[.s [.i .i64,.i .i64,.i .i64,.i .i64,.i .u64]])] args) : ∃ c v2 steps,args = [.agg (encC c).toArray,v2] ∧ Sl encStp 5 g v2 steps := by
  cases hr with
  | cons h1 hr =>
  cases hr with
  | cons h3 hr =>
  cases hr
  obtain ⟨cs,e,h1⟩ := h1
  obtain ⟨c,e1⟩ := decCfg _ h1
  obtain ⟨v3,r3,e3,h3,h3'⟩ := rep_s h3
  have e3' := rep_nil h3'
  subst e3'
  cases e3
  subst e1 e
  obtain ⟨steps,hs,_⟩ := rep_sl decStp h3
  exact ⟨c,_,steps,rfl,hs⟩
end Go.Proofs.YtjpckcikmfihlaaGreat.Gen
namespace Go.Proofs.YtjpckcikmfihlaaGreat.Gen
open Go Go.Proofs.YtjpckcikmfihlaaGreat.Abs Go.RowKit
variable {g : G} {n : Nat}
theorem MesiFits_row {args : List Value} (hr : RepAs g [(true,[.i .i64,.i .i64,.i .i64,.i .i64,.i .i64,.i .i64,.i .i64]),(false,[.s [.i .i64,.i .i64,.i .i64,.i .i64,.i .u64]])] args) {K : Cont} (hK : ∀ g' n',K (.bool true) g' n') : AC bellowslaw09_MesiFits_id args g n K := by
  obtain ⟨c,v2,steps,rfl,hs⟩ := two_args hr
  exact MF_spec c hs hK
end Go.Proofs.YtjpckcikmfihlaaGreat.Gen
