import Derived.Test.YtjpckcikmfihlaaGreatSpecMesiTrueC
/- What the functions come to. -/
set_option linter.all false
set_option linter.deprecated false
namespace Go.Proofs.YtjpckcikmfihlaaGreat.Gen
open Go Go.Proofs.YtjpckcikmfihlaaGreat.Abs Go.RowKit
variable {g : G} {n : Nat}
theorem readQ_fail {S : Sys} {k : Nat} (h : S.wf k) {i : Nat} (hi : i < S.c.lines.toNat) : S.fail.D.mem[i]? = some (readQ [] S.fail.D (i : Nat)) := by
  have hw : S.fail.wf 0 := h.fail 0
  have hl : i < S.fail.D.mem.length := by rw [hw.mem]; exact hi
  show _ = some (S.fail.D.get (i : Nat))
  unfold Dev.get
  rw [if_pos (by omega),Int.toNat_natCast,List.getD_eq_getElem?_getD,List.getElem?_eq_getElem hl]; rfl
theorem encL_zero : [Value.int .u64 0,.int .u64 0,.int .u64 0,.int .u64 0,.int .u64 0,.int .u64 0,.int .u64 0,.int .u64 0] = encL zeroL := rfl
set_option maxRecDepth 100000 in
theorem MT_l2 {g0 : G} {l2 l : Nat} {v2 : Value} {c : Cfg} {j : Nat} {K : Cont} {I : ECont} (hg2 : g0 l2 = some (.cells (encC c) .exact)) (hj : j < 600) (hI : ∀ t' g' n',TrueI g0 l2 l v2 c (j + 1) t' g' → I t' g' n')
    {o : Col Cl} {W : SysW} {S : Sys} {Vs : Nat → Ln} {ln cap l9 : Nat} {x : Stp} {t : Env} (hs : Sub g0 (unc o g)) (h : SysH o g l W S) (hp : S.pr j Vs) (hc : S.c = c) (hN : NowB g0 o g ln (over S.q S.D.mem)) (hx : x.kind = 11)
    (h9 : unc o g l9 = some (.cells (encStp x) .exact)) (hne : l9 ≠ ln)
    (t1 : t 1 = v2) (t2 : t 2 = ptr l2 0) (t5 : t 5 = ptr l 0) (t7 : t 7 = .slice (some ⟨ln,0,none⟩) (over S.q S.D.mem).length cap) (t8 : t 8 = .int .i64 (j : Nat)) (t9 : t 9 = ptr l9 0) (t10 : t 10 = .int .i64 0) : lfp (bellowslaw09_MesiTrue_l2 AC K I) t g n := by
  have hv := hp.wf.c.vol
  have hl := hp.wf.c.lines
  have wl : (over S.q S.D.mem).length = S.c.lines.toNat := (over_len _ _).trans hp.wf.mem
  refine lfp_ind (m := S.c.vol.toNat) (Inv := fun q t g9 n9 => ∃ (m : Nat),q + m = S.c.vol.toNat ∧ Sub g0 (unc o g9) ∧ SysH o g9 l W S ∧ NowB g0 o g9 ln (List.replicate m zeroL ++ (over S.q S.D.mem).drop m) ∧ unc o g9 l9 = some (.cells (encStp x) .exact) ∧
    t 1 = v2 ∧ t 2 = ptr l2 0 ∧ t 5 = ptr l 0 ∧ t 7 = .slice (some ⟨ln,0,none⟩) (over S.q S.D.mem).length cap ∧ t 8 = .int .i64 (j : Nat) ∧ t 9 = ptr l9 0 ∧ t 10 = .int .i64 (m : Nat)) ?_
    ⟨0,by omega,hs,h,by simpa using hN,h9,t1,t2,t5,t7,t8,t9,t10⟩
  rintro I2 q t' g9 n9 ih ⟨m,hm,s9,h9',hN9,y9,t1',t2',t5',t7',t8',t9',t10'⟩
  simp only [bellowslaw09_MesiTrue_l2,t2',t10',kPtr_p,kFill_nil]
  have x2 := (unc_live (s9.live hg2)).2
  refine kLd_of x2 (show (encC c)[0 + 2]? = some (.int .i64 c.vol) from rfl) (wLss (kSp_d (fun hlt => ?_) (fun hlt => ?_)))
  · rw [t7']
    rw [← hc] at hlt
    refine kIndexAddr_s (by omega) (by omega) ?_
    simp only [kPtr_p,kAgg_a,encL_zero]
    rw [Int.toNat_natCast,Nat.zero_add]
    refine ⟨encL_len _,?_⟩
    obtain ⟨bk,hr,hcells⟩ := hN9.cells
    have hlen : (List.replicate m zeroL ++ (over S.q S.D.mem).drop m).length = S.c.lines.toNat := by simp [wl]; omega
    have hset : (List.replicate m zeroL ++ (over S.q S.D.mem).drop m).set m zeroL = List.replicate (m + 1) zeroL ++ (over S.q S.D.mem).drop (m + 1) := by
      rw [List.set_append_right _ _ (by simp),List.length_replicate,Nat.sub_self]
      obtain ⟨y,ys,e⟩ : ∃ y ys,(over S.q S.D.mem).drop m = y :: ys := by
        cases e : (over S.q S.D.mem).drop m with
        | nil => have := List.drop_eq_nil_iff.1 e; omega
        | cons y ys => exact ⟨y,ys,rfl⟩
      have e2 : (over S.q S.D.mem).drop (m + 1) = ys := by rw [← List.drop_drop,e]; rfl
      rw [e,e2,List.set_cons_zero,List.replicate_succ',List.append_assoc]; rfl
    refine Blk1.stN (bk := bk) encL_len (fun x => encL_cell x) (show Blk1 encL g9 ln _ bk from hcells) hr (by rw [hlen]; omega) (fun hx' => ?_)
    rw [hset] at hx' ⊢
    rw [kBin_add,wrapNat (a := m) (by omega)]
    refine ih (q - 1) _ _ _ (by omega) ⟨m + 1,by omega,sub_upd s9 hN9.f0 _,h9'.same (same_upd hN9.fo _),⟨hN9.f0,hN9.fo,bk,hr,hx'⟩,?_,t1',t2',t5',t7',t8',t9',rfl⟩
    obtain ⟨a,b⟩ := unc_live y9
    rw [unc_none a,upd_ne _ _ hne]; exact b
  · have hmv : m = S.c.vol.toNat := by rw [← hc] at hlt; omega
    subst hmv
    rw [← fail_mem hp.wf] at hN9
    have hlen : S.fail.D.mem.length = c.lines.toNat := by rw [← hc]; exact (hp.wf.fail 0).mem
    refine MT_j3 (cap := cap) hg2 hj hI s9 h9' hp hc hN9 hlen (fun k hk => ?_) y9 t1' t2' t5' ?_ t8' t9'
    · rw [if_pos hx]; exact readQ_fail hp.wf (by rw [hc]; exact hk)
    · rw [hlen,← hc,← wl]; exact t7'
theorem MT_spec (c : Cfg) {v2 : Value} {steps : List Stp} (h2 : Sl encStp 5 g v2 steps) {K : Cont} (hK : ∀ g' n',K (.bool true) g' n') : AC bellowslaw09_MesiTrue_id [.agg (encC c).toArray,v2] g n K := by
  refine ACalls.fold X0_mono ?_
  rw [← bellowslaw09_MesiTrue_eq]
  simp only [bellowslaw09_MesiTrue,kAgg_a]
  intro hn
  have s1 := (Sub.refl g).new hn (some (.cells (encC c) .exact))
  have x1 : upd g n (some (.cells (encC c) .exact)) n = some (.cells (encC c) .exact) := upd_same _ _ _
  generalize upd g n (some (.cells (encC c) .exact)) = g1 at s1 x1 ⊢
  have wk : ∀ g' n',aRet K (.bool true) g' n' := fun g' n' => aRet_of (Sub.refl _) (hK _ _)
  refine (h2.mono s1).len (wGtr (kSp_d (fun _ => wakes_tell wk) (fun hlen => ?_)))
  refine kLdN_of x1 (by simp [encC]) ?_
  rw [show ((encC c).drop 0).take 7 = encC c from rfl]
  refine rGood_spec c (fun g2 n2 s2 => wNot (kSp_b (fun _ => wakes_tell wk) (fun hg => ?_)))
  have hgood : goodC c = true := by simpa using hg
  have hc := goodC_t hgood
  have hl := hc.lines
  have x2 := s2.live x1
  refine kLdN_of x2 (by simp [encC]) ?_
  rw [show ((encC c).drop 0).take 7 = encC c from rfl]
  refine SNew_spec c (img := []) Sl.nil (fun hb => absurd ⟨hgood,.inl rfl⟩ hb) (fun _ _ l o5 g5 n5 W5 u5 h5 => ?_)
  simp only [kExtract_t,kGet_zero,kGet_succ]
  refine wNeq (kSp_d (fun h => absurd h (by decide)) (fun _ => ?_))
  refine wNilQ (kSp_b (fun h => nomatch h) (fun _ => ?_))
  have hs5 : Sl encStp 5 (unc o5 g5) v2 steps := (h2.mono (s1.trans s2)).mono u5
  have h35 : unc o5 g5 n = some (.cells (encC c) .exact) := u5.live x2
  refine kLd_of ((unc_sub _ _).live h35) (show (encC c)[0 + 1]? = some (.int .i64 c.lines) from rfl) ?_
  refine ⟨by omega,Int.le_refl _,by omega,by omega,?_⟩
  intro hn6
  have o6 : o5 n5 = none := h5.live.fresh hn6
  have e6 : unc o5 g5 n5 = none := by rw [unc_none o6]; exact hn6
  rw [encL_zero,flat_reps (enc := encL) zeroL c.lines.toNat]
  have s6 := (Sub.refl g5).new hn6 (some (.cells ((List.replicate c.lines.toNat zeroL).map encL).flatten .exact))
  have x6 : upd g5 n5 (some (.cells ((List.replicate c.lines.toNat zeroL).map encL).flatten .exact)) n5 = _ := upd_same _ _ _
  have h6 := h5.mono s6
  have u6 : Sub (unc o5 g5) (unc o5 (upd g5 n5 (some (.cells ((List.replicate c.lines.toNat zeroL).map encL).flatten .exact)))) := Sub.uncs h5.live s6
  generalize upd g5 n5 (some (.cells ((List.replicate c.lines.toNat zeroL).map encL).flatten .exact)) = g6 at s6 x6 h6 u6 ⊢
  have hlen' : steps.length ≤ 600 := by omega
  refine lfp_ind (m := steps.length) (Inv := fun q t g9 n9 => ∃ (j : Nat),q + j = steps.length ∧ TrueI (unc o5 g5) n l v2 c j t g9) ?_
    ⟨0,by omega,o5,W5,newSys c [],fun _ => zeroL,n5,c.lines.toNat,List.replicate c.lines.toNat zeroL,u6,h6,newSys_pr hc 0,rfl,⟨e6,o6,.exact,rfl,x6⟩,by simp,(fun k hk => by rw [List.getElem?_replicate,if_pos hk]),rfl,rfl,rfl,by rw [List.length_replicate]; rfl,rfl⟩
  rintro I q t g9 n9 ih ⟨j,hj,o9,W9,S9,Vs,ln,cap,now,u9,h9,p9,c9,hN9,hl9,hnow,t1,t2,t5,t7,t8⟩
  simp only [bellowslaw09_MesiTrue_l1,t1,t2,t5,t8,kPtr_p]
  have hs9 : Sl encStp 5 g9 v2 steps := (hs5.mono u9).mono (unc_sub _ _)
  refine hs9.len (wLss (kSp_d (fun hlt => ?_) (fun hlt => wakes_tell wk)))
  obtain ⟨x,hx⟩ : ∃ x,steps[j]? = some x := ⟨_,List.getElem?_eq_getElem (by omega)⟩
  refine hs9.idx encStp_len hx (fun li oi ha => ?_)
  simp only [kPtr_p]
  refine ha.ldN (by rw [encStp_len]) ?_
  intro hn7
  have s7 := (Sub.refl g9).new hn7 (some (.cells (encStp ⟨0,0,0,0,0⟩) .exact))
  have x7 : upd g9 n9 (some (.cells (encStp ⟨0,0,0,0,0⟩) .exact)) n9 = some (.cells (encStp ⟨0,0,0,0,0⟩) .exact) := upd_same _ _ _
  have e0 : [Value.int .i64 0,.int .i64 0,.int .i64 0,.int .i64 0,.int .u64 0] = encStp ⟨0,0,0,0,0⟩ := rfl
  simp only [kAgg_a,e0]
  refine ⟨encStp_len _,kStN_of x7 rfl (by rw [encStp_len,encStp_len]; decide) (by intro v hv; simp [encStp] at hv; rcases hv with rfl | rfl | rfl | rfl | rfl <;> rfl) ?_⟩
  rw [show splice (encStp ⟨0,0,0,0,0⟩) 0 (encStp x) = encStp x from rfl]
  have s8 : Sub g9 (upd (upd g9 n9 (some (.cells (encStp ⟨0,0,0,0,0⟩) .exact))) n9 (some (.cells (encStp x) .exact))) := s7.upd_fresh _ hn7
  have x8 : upd (upd g9 n9 (some (.cells (encStp ⟨0,0,0,0,0⟩) .exact))) n9 (some (.cells (encStp x) .exact)) n9 = some (.cells (encStp x) .exact) := upd_same _ _ _
  have o8 : o9 n9 = none := h9.live.fresh hn7
  generalize upd (upd g9 n9 (some (.cells (encStp ⟨0,0,0,0,0⟩) .exact))) n9 (some (.cells (encStp x) .exact)) = g8 at s8 x8 ⊢
  have h8 := h9.mono s8
  have u8 := Sub.uncs h9.live s8
  have us8 := u9.trans u8
  have hN8 := hN9.step u8
  have x8u : unc o9 g8 n9 = some (.cells (encStp x) .exact) := by rw [unc_none o8]; exact x8
  have hI : ∀ t' g' n',TrueI (unc o5 g5) n l v2 c (j + 1) t' g' → I t' g' n' := fun t' g' n' a => ih (q - 1) t' g' n' (by omega) ⟨j + 1,by omega,a⟩
  refine kLd_of x8 (show (encStp x)[0 + 0]? = some (.int .i64 x.kind) from rfl) (wEql (kSp_d (fun hk => ?_) (fun hk => ?_)))
  · refine SMemory_spec h8 p9.wf.shp p9.wf.inr (fun v7 g10 n10 s10 o10 => ?_)
    have h10 := h8.mono s10
    have u10 := Sub.uncs h8.live s10
    have us10 := us8.trans u10
    have y10 := u10.live x8u
    have x2' := (unc_live (us10.live h35)).2
    have wl : (over S9.q S9.D.mem).length = c.lines.toNat := by rw [← c9]; exact (over_len _ _).trans p9.wf.mem
    refine o10.sl.len (kLd_of x2' (show (encC c)[0 + 1]? = some (.int .i64 c.lines) from rfl) (wNeq (kSp_d (fun a => absurd a (by rw [wl]; omega)) (fun _ => ?_))))
    rcases o10 with ⟨a,_⟩ | ⟨lb,cap',bk,rfl,hb,hb0,_,hbk⟩
    · omega
    have hr : bk.rw = true := by rcases hbk with ⟨_,rfl,_⟩ | ⟨_,rfl⟩ <;> rfl
    have ob : o9 lb = none := h8.live.fresh hb0
    have gb : unc o5 g5 lb = none := us8.none (by rw [unc_none ob]; exact hb0)
    have hne : n9 ≠ lb := fun e => by rw [← e,x8] at hb0; cases hb0
    exact MT_l2 h35 (by omega) hI us10 h10 p9 c9 ⟨gb,ob,bk,hr,hb⟩ hk y10 hne t1 t2 t5 rfl t8 rfl rfl
  · exact MT_j3 h35 (by omega) hI us8 h8 p9 c9 hN8 hl9 (fun k hk' => by rw [if_neg hk]; exact hnow k hk') x8u t1 t2 t5 t7 t8 rfl
end Go.Proofs.YtjpckcikmfihlaaGreat.Gen
namespace Go.Proofs.YtjpckcikmfihlaaGreat.Gen
open Go Go.Proofs.YtjpckcikmfihlaaGreat.Abs Go.RowKit
variable {g : G} {n : Nat}
theorem decStp (c : List Value) (h : RepL g [.i .i64,.i .i64,.i .i64,.i .i64,.i .u64] c) : ∃ x,c = encStp x := by
  obtain ⟨a1,r1,e1,_,h⟩ := rep_i h
  obtain ⟨a2,r2,e2,_,h⟩ := rep_i h
  obtain ⟨a3,r3,e3,_,h⟩ := rep_i h
  obtain ⟨a4,r4,e4,_,h⟩ := rep_i h
  obtain ⟨a5,r5,e5,_,h⟩ := rep_i h
  have e := rep_nil h
  subst e e5 e4 e3 e2 e1
  exact ⟨⟨a1,a2,a3,a4,a5⟩,rfl⟩
theorem decCfg (c : List Value) (h : RepL g [.i .i64,.i .i64,.i .i64,.i .i64,.i .i64,.i .i64,.i .i64] c) : ∃ x,c = encC x := by
  obtain ⟨a1,r1,e1,_,h⟩ := rep_i h
  obtain ⟨a2,r2,e2,_,h⟩ := rep_i h
  obtain ⟨a3,r3,e3,_,h⟩ := rep_i h
  obtain ⟨a4,r4,e4,_,h⟩ := rep_i h
  obtain ⟨a5,r5,e5,_,h⟩ := rep_i h
  obtain ⟨a6,r6,e6,_,h⟩ := rep_i h
  obtain ⟨a7,r7,e7,_,h⟩ := rep_i h
  have e := rep_nil h
  subst e e7 e6 e5 e4 e3 e2 e1
  exact ⟨⟨a1,a2,a3,a4,a5,a6,a7⟩,rfl⟩
theorem two_args {args : List Value} (hr : RepAs g [(true,[.i .i64,.i .i64,.i .i64,.i .i64,.i .i64,.i .i64,.i .i64]),(false,[.s [.i .i64,.i .i64,.i .i64,.i .i64,.i .u64]])] args) : ∃ c v2 steps,args = [.agg (encC c).toArray,v2] ∧ Sl encStp 5 g v2 steps := by
  cases hr with
  | cons h1 hr =>
  cases hr with
  | cons h3 hr =>
  cases hr
  obtain ⟨cs,e,h1⟩ := h1
  obtain ⟨c,e1⟩ := decCfg _ h1
  obtain ⟨v3,r3,e3,h3,h3'⟩ := rep_s h3
  have e3' := rep_nil h3'
  subst e3'
  cases e3
  subst e1 e
  obtain ⟨steps,hs,_⟩ := rep_sl decStp h3
  exact ⟨c,_,steps,rfl,hs⟩
theorem MesiTrue_row {args : List Value} (hr : RepAs g [(true,[.i .i64,.i .i64,.i .i64,.i .i64,.i .i64,.i .i64,.i .i64]),(false,[.s [.i .i64,.i .i64,.i .i64,.i .i64,.i .u64]])] args) {K : Cont} (hK : ∀ g' n',K (.bool true) g' n') : AC bellowslaw09_MesiTrue_id args g n K := by
  obtain ⟨c,v2,steps,rfl,hs⟩ := two_args hr
  exact MT_spec c hs hK
end Go.Proofs.YtjpckcikmfihlaaGreat.Gen
