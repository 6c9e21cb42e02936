import Derived.Test.YtjpckcikmfihlaaGreatSpecMesiOneC
/- What the functions come to. -/
set_option linter.all false
set_option linter.deprecated false
namespace Go.Proofs.YtjpckcikmfihlaaGreat.Gen
open Go Go.Proofs.YtjpckcikmfihlaaGreat.Abs Go.RowKit
variable {g:G} {n:Nat}
theorem JeV {l o i k:Nat} {cs xs:List Value} {K:List Value→Prop} (h:At g l o cs) (hi:i+k≤cs.length) (hx:(cs.drop i).take k=xs) (kk:K xs):Xl g l (o+i) k K:=by
 obtain ⟨bs,bk,hg,hl,he⟩:=h
 refine Qy hg (by omega) ?_
 have h2:=congrArg (fun t=>(t.drop i).take k) he
 rw [List.drop_take,List.take_take,List.drop_drop,Nat.min_eq_left (by omega)] at h2
 rw [h2,hx];exact kk
theorem XcX (s:St):((encS s).drop 2).take 8=Qm s.data:=by
 show (Qm s.data++_).take 8=_
 exact List.take_left' (Qd _)
theorem Xdz {v:Value} {xs:List St} {ld:Nat} {d:Ln} (h:Sl encS 11 g v xs) (hne:xs≠[]) (hd:g ld=some (.cells (Qm d) .exact)):Xau v≠some ld:=by
 obtain ⟨a,c,rfl,h1,h2,h3⟩:=h
 have hpos:0<xs.length:=by cases xs with
  | nil=>exact absurd rfl hne
  | cons x xs=>simp
 obtain ⟨l',i,bs,bk,rfl,h4,h5,_⟩:=h3 hpos
 intro e
 cases e
 rw [hd] at h4
 cases h4
 rw [Qd] at h5
 omega
section
variable {g0:G} {l2 l ld ln m jj:Nat} {v2:Value} {c:Cfg} {S:Sys} {o:Col Cl} {V:Ln} {k:Nat} {Vs:Nat→Ln}
structure Xeo (t:Env) (l2 l ld ln m jj:Nat) (v2:Value):Prop where
 t1:t 1=v2
 t2:t 2=ptr l2 0
 t5:t 5=ptr l 0
 t7:t 7= .int .i64 (jj:Nat)
 t8:t 8= .int .i64 (ln:Nat)
 t11:t 11=ptr ld 0
 t12:t 12= .int .i64 (m:Nat)
set_option maxRecDepth 100000 in
theorem Jf9 {E:Ent} {N:Nd} {K:Cont} {I1 I3 I4:Zi} (hp:S.pr k Vs) (hE:S.dir[ln]?=some E) (hN:S.nodes[m]?=some N) (hm8:m<8)
  (hI: ∀t' g' n' w r d,OneS g0 l2 l ld c S o g' d→ZcY S ln (Vs ln) (m+1) w r d→Xeo t' l2 l ld ln (m+1) jj v2→t' 9= .int .i64 w→t' 10= .int .i64 r→I4 t' g' n')
  {v:Value} {w r:Int} {d:Ln} {t:Env} (hs:OneS g0 l2 l ld c S o g d) (hq:ZcY S ln (Vs ln) m w r d) (hsl:Sl encS 11 g v N.A.slots) (ht:Xeo t l2 l ld ln m jj v2) (t9:t 9= .int .i64 w) (t10:t 10= .int .i64 r) (t13:t 13=v) (t14:t 14= .int .i64 0):
  lfp (XR AC K I1 I3 I4) t g n:=by
 have hn:=hp.wf.nd m N hN
 have hslen:=Jfj hn.gd.ok
 have honce:=Zd3 hn.gd.wf
 have hL:=hp.line ln E hE
 have hmc:((m:Nat):Int)<S.c.cores:=by have:=Xe hN;have:=hp.wf.nodes;have:=hp.wf.c.cores;omega
 have hsV:S.sV ln m=(N.A.slot (ln:Nat)).state:=by unfold Sys.sV;rw [Qav hN]
 have hdV:S.dV ln m=(N.A.slot (ln:Nat)).data:=by unfold Sys.dV;rw [Qav hN]
 refine Z7 (m:=N.A.slots.length) (Inv:=fun q t g9 n9=> ∃(j:Nat) (w r:Int) (d:Ln),q+j=N.A.slots.length∧OneS g0 l2 l ld c S o g9 d∧Sl encS 11 g9 v N.A.slots∧
  ((∃s∈N.A.slots.take j,s.line=(ln:Nat))→ZcY S ln (Vs ln) (m+1) w r d)∧((∀s∈N.A.slots.take j,s.line≠(ln:Nat))→ZcY S ln (Vs ln) m w r d)∧Xeo t l2 l ld ln m jj v2∧t 9= .int .i64 w∧t 10= .int .i64 r∧t 13=v∧t 14= .int .i64 (j:Nat)) ?_
  ⟨0,w,r,d,by omega,hs,hsl,(fun ⟨s,hs,_⟩=>by rw [List.take_zero] at hs;cases hs),fun _=>hq,ht,t9,t10,t13,t14⟩
 rintro I q t g9 n9 ih ⟨j,w,r,d,hj,h9,sl9,hseen,hno,ht,t9,t10,t13,t14⟩
 simp only [XR,t13,t14,ht.t8]
 refine sl9.len (Ze3 (Qp (fun hlt=> ?_) (fun hlt=> ?_)))
 ·obtain ⟨s,hsj⟩: ∃x,N.A.slots[j]?=some x:=⟨_,List.getElem?_eq_getElem (by omega)⟩
  have htk:N.A.slots.take (j+1)=N.A.slots.take j++[s]:=by rw [List.take_add_one,hsj];rfl
  have next: ∀(t':Env) (g':G) (n':Nat) (w' r':Int) (d':Ln),OneS g0 l2 l ld c S o g' d'→Sl encS 11 g' v N.A.slots→((∃s∈N.A.slots.take (j+1),s.line=(ln:Nat))→ZcY S ln (Vs ln) (m+1) w' r' d')→((∀s∈N.A.slots.take (j+1),s.line≠(ln:Nat))→ZcY S ln (Vs ln) m w' r' d')→
    Xeo t' l2 l ld ln m jj v2→t' 9= .int .i64 w'→t' 10= .int .i64 r'→t' 13=v→t' 14= .int .i64 (j:Nat)→Zp AC K I1 I3 I4 I t' g' n':=by
   intro t' g' n' w' r' d' a1 a2 a3 a4 a5 b9 b10 b13 b14
   simp only [Zp,b14]
   rw [Qn,QaG (a:=j) (by omega)]
   exact ih (q-1) _ _ _ (by omega) ⟨j+1,w',r',d',by omega,a1,a2,a3,a4,⟨a5.t1,a5.t2,a5.t5,a5.t7,a5.t8,a5.t11,a5.t12⟩,b9,b10,b13,rfl⟩
  refine sl9.idx Xf hsj (fun li oi ha=> ?_)
  simp only [Jb]
  refine At.ld ha (JdK s) (Zb4 (Qp (fun hne=> ?_) (fun heq=> ?_)))
  ·refine next _ _ _ w r d h9 sl9 (fun ⟨x,hx,hxl⟩=> ?_) (fun hall=>hno (fun x hx=>hall x (by rw [htk];exact List.mem_append_left _ hx))) ⟨ht.t1,ht.t2,ht.t5,ht.t7,ht.t8,ht.t11,ht.t12⟩ t9 t10 t13 t14
   rw [htk] at hx
   rcases List.mem_append.1 hx with hx|hx
   ·exact hseen ⟨x,hx,hxl⟩
   ·rcases List.mem_singleton.1 hx with rfl;exact absurd hxl hne
  have heq:s.line=(ln:Nat):=by simpa using heq
  obtain ⟨sg,sg0⟩:=Zew hn.gd.ok hn.gd.wf hsj
  rw [heq] at sg
  have hst:S.sV ln m=s.state:=by rw [hsV,sg]
  have hda:S.dV ln m=s.data:=by rw [hdV,sg]
  have hQ:ZcY S ln (Vs ln) m w r d:=hno (fun x hx=>by have:=ZeK honce hsj x hx;rw [heq] at this;exact this)
  have yes: ∀{w' r':Int} {d':Ln},ZcY S ln (Vs ln) (m+1) w' r' d'→((∃s∈N.A.slots.take (j+1),s.line=(ln:Nat))→ZcY S ln (Vs ln) (m+1) w' r' d')∧((∀s∈N.A.slots.take (j+1),s.line≠(ln:Nat))→ZcY S ln (Vs ln) m w' r' d'):=by
   intro w' r' d' h
   refine ⟨fun _=>h,fun hall=>absurd heq (hall s ?_)⟩
   rw [htk];exact List.mem_append_right _ (List.mem_singleton.2 rfl)
  have hqb:=JfX hQ
  have hxne:N.A.slots≠[]:=fun e=>by rw [e] at hsj;cases hsj
  have j8: ∀(t':Env),Xeo t' l2 l ld ln m jj v2→t' 9= .int .i64 w→t' 10= .int .i64 r→t' 13=v→t' 14= .int .i64 (j:Nat)→ ¬wr s.state→t' 99= .bool (decide (rd s.state))→JD AC K I1 I3 I4 I t' g9 n9:=by
   intro t' ht' b9 b10 b13 b14 hnw b99
   simp only [JD,b99]
   refine Qp (fun hrd=> ?_) (fun hnr=> ?_)
   ·obtain ⟨hq1,hq2⟩:=Qfq hL hQ hmc (by rw [hst];exact hrd)
    have hval:s.data=Vs ln:=by rw [←hda];exact Qe1 hL hmc (by rw [hst];exact hrd)
    rw [b10,b13,b14,ht'.t11]
    have fin: ∀(tf:Value→Env),(∀vv,Xeo (tf vv) l2 l ld ln m jj v2∧tf vv 9= .int .i64 w∧tf vv 10=vv∧tf vv 13=v∧tf vv 14= .int .i64 (j:Nat))→True:=fun _ _=>trivial
    clear fin
    have hput:=h9.put s.data
    have slp:Sl encS 11 (upd g9 ld (some (.cells (Qm s.data) .exact))) v N.A.slots:=XfW sl9 (Xdz sl9 hxne h9.dat)
    obtain ⟨y1,y2⟩:=yes (w':=w) (r':=r+1) (d':=s.data) (by rw [hval];exact hq1)
    refine Xfm (Qp (fun hr0=> ?_) (fun hr0=> ?_))
    ·refine sl9.idx Xf hsj (fun li oi ha=> ?_)
     simp only [Jb]
     refine JeV ha (by rw [Xf];decide) (XcX s) ?_
     refine Qy h9.dat (by rw [Qd];decide) ?_
     rw [show ((Qm d).drop 0).take 8=Qm d by rw [List.drop_zero,List.take_of_length_le (by rw [Qd];exact Nat.le_refl _)]]
     refine neL s.data d _ (Qp (fun h=>absurd (hval.trans (hq2 hr0).symm) h) (fun _=> ?_))
     rw [Qn,Xo (by omega) (by omega)]
     refine sl9.idx Xf hsj (fun li oi ha=> ?_)
     simp only [Jb,Jf]
     refine JeV ha (by rw [Xf];decide) (XcX s) ?_
     refine ⟨Qd _,Xf2 h9.dat ?_⟩
     exact next _ _ _ w (r+1) s.data hput slp y1 y2 ⟨ht'.t1,ht'.t2,ht'.t5,ht'.t7,ht'.t8,ht'.t11,ht'.t12⟩ b9 rfl b13 b14
    ·rw [Qn,Xo (by omega) (by omega)]
     refine sl9.idx Xf hsj (fun li oi ha=> ?_)
     simp only [Jb,Jf]
     refine JeV ha (by rw [Xf];decide) (XcX s) ?_
     refine ⟨Qd _,Xf2 h9.dat ?_⟩
     exact next _ _ _ w (r+1) s.data hput slp y1 y2 ⟨ht'.t1,ht'.t2,ht'.t5,ht'.t7,ht'.t8,ht'.t11,ht'.t12⟩ b9 rfl b13 b14
   ·obtain ⟨y1,y2⟩:=yes (Jc7 hQ (by rw [hst];exact hnw))
    exact next _ _ _ w r d h9 sl9 y1 y2 ht' b9 b10 b13 b14
  have j7: ∀(t':Env),Xeo t' l2 l ld ln m jj v2→t' 9= .int .i64 w→t' 10= .int .i64 r→t' 13=v→t' 14= .int .i64 (j:Nat)→t' 87= .int .i64 s.state→t' 88= .bool (decide (wr s.state))→ZE AC K I1 I3 I4 I t' g9 n9:=by
   intro t' ht' b9 b10 b13 b14 b87 b88
   simp only [ZE,b88,b87]
   refine Qp (fun hwr=> ?_) (fun hnw=> ?_)
   ·rw [b9,Qn,Xo (by omega) (by omega),ht'.t5,ht'.t8,ht'.t12]
    have hwr':wr (S.sV ln m):=by rw [hst];exact hwr
    have ho:=Xb9 hL hmc hwr'
    obtain ⟨W,hW⟩:=h9.sys
    refine Qce hW (ln:Nat) (fun g10 n10 s10=> ?_)
    simp only [Jf]
    have he:S.entry (ln:Nat)=E:=by unfold Sys.entry;rw [Sys.ent_of hE]
    rw [he]
    refine JdD (XdX E) ?_
    rw [ho]
    refine Zb4 (Qp (fun h=>absurd rfl h) (fun _=> ?_))
    obtain ⟨y1,y2⟩:=yes (JfG hL hQ hmc hwr')
    exact next _ _ _ (w+1) r d (h9.mono s10) (sl9.mono s10) y1 y2 ⟨ht'.t1,ht'.t2,ht'.t5,ht'.t7,ht'.t8,ht'.t11,ht'.t12⟩ rfl b10 b13 b14
   ·refine Xa5 (Qp (fun h1=> ?_) (fun h1=>Xa5 ?_))
    ·exact j8 _ ⟨ht'.t1,ht'.t2,ht'.t5,ht'.t7,ht'.t8,ht'.t11,ht'.t12⟩ b9 b10 b13 b14 hnw (by show Value.bool (decide (s.state=1))=_;rw [decide_eq_true h1,decide_eq_true (show rd s.state from .inl h1)])
    ·refine j8 _ ⟨ht'.t1,ht'.t2,ht'.t5,ht'.t7,ht'.t8,ht'.t11,ht'.t12⟩ b9 b10 b13 b14 hnw ?_
     show Value.bool (decide (s.state=6))=_
     congr 1
     rw [decide_eq_decide]
     exact ⟨fun a=> .inr a,fun a=>a.resolve_left h1⟩
  refine sl9.idx Xf hsj (fun li2 oi2 ha2=> ?_)
  simp only [Jb]
  refine At.ld ha2 (Qdk s) (Xa5 (Qp (fun h2=> ?_) (fun h2=>Xa5 ?_)))
  ·exact j7 _ ⟨ht.t1,ht.t2,ht.t5,ht.t7,ht.t8,ht.t11,ht.t12⟩ t9 t10 t13 t14 rfl (by show Value.bool (decide (s.state=2))=_;rw [decide_eq_true h2,decide_eq_true (show wr s.state from .inl h2)])
  ·refine j7 _ ⟨ht.t1,ht.t2,ht.t5,ht.t7,ht.t8,ht.t11,ht.t12⟩ t9 t10 t13 t14 rfl ?_
   show Value.bool (decide (s.state=3))=_
   congr 1
   rw [decide_eq_decide]
   exact ⟨fun a=> .inr a,fun a=>a.resolve_left h2⟩
 ·have hjl:j=N.A.slots.length:=by omega
  subst hjl
  rw [List.take_length] at hseen hno
  have hQ:ZcY S ln (Vs ln) (m+1) w r d:=by
   by_cases hx: ∃s∈N.A.slots,s.line=((ln:Nat):Int)
   ·exact hseen hx
   ·have hall: ∀s∈N.A.slots,s.line≠((ln:Nat):Int):=fun s hs e=>hx ⟨s,hs,e⟩
    refine Jc7 (hno hall) ?_
    rw [hsV,Xe4 hn.gd.ok hall]
    rintro (a|a)<;>omega
  have j9: ∀(t':Env),Xeo t' l2 l ld ln m jj v2→t' 9= .int .i64 w→t' 10= .int .i64 r→JS AC K I1 I3 I4 t' g9 n9:=by
   intro t' ht' b9 b10
   simp only [JS,ht'.t12]
   rw [Qn,QaG (a:=m) (by omega)]
   exact hI _ _ _ w r d h9 hQ ⟨ht'.t1,ht'.t2,ht'.t5,ht'.t7,ht'.t8,ht'.t11,rfl⟩ b9 b10
  exact j9 _ ⟨ht.t1,ht.t2,ht.t5,ht.t7,ht.t8,ht.t11,ht.t12⟩ t9 t10
end
end Go.Proofs.YtjpckcikmfihlaaGreat.Gen
namespace Go.Proofs.YtjpckcikmfihlaaGreat.Gen
open Go Go.Proofs.YtjpckcikmfihlaaGreat.Abs Go.RowKit
variable {g:G} {n:Nat}
theorem Xeh:[Value.int .u64 0,.int .u64 0,.int .u64 0,.int .u64 0,.int .u64 0,.int .u64 0,.int .u64 0,.int .u64 0]=Qm zeroL:=rfl
section
variable {g0:G} {l2 l ld ln jj:Nat} {v2:Value} {c:Cfg} {S:Sys} {o:Col Cl} {k:Nat} {Vs:Nat→Ln}
theorem OneS.cfg {d:Ln} (h:OneS g0 l2 l ld c S o g d) (h2:g0 l2=some (.cells (Qx c) .exact)):g l2=some (.cells (Qx c) .exact):=(ZM _ _).live (h.s0.live h2)
set_option maxRecDepth 100000 in
theorem Zgd {E:Ent} {K:Cont} {I1 I3:Zi} (h2:g0 l2=some (.cells (Qx c) .exact)) (hp:S.pr k Vs) (hk:k<900) (hc:S.c=c) (hE:S.dir[ln]?=some E)
  (hI: ∀t' g' n' d,OneS g0 l2 l ld c S o g' d→t' 1=v2→t' 2=ptr l2 0→t' 5=ptr l 0→t' 7= .int .i64 (jj:Nat)→t' 8= .int .i64 ((ln+1:Nat):Int)→I3 t' g' n')
  {d:Ln} {t:Env} (hs:OneS g0 l2 l ld c S o g d) (hl16:ln<1000) (ht:Xeo t l2 l ld ln 0 jj v2) (t9:t 9= .int .i64 0) (t10:t 10= .int .i64 0):
  lfp (XU AC K I1 I3) t g n:=by
 have hcg:=hp.wf.c.cores
 refine Z7 (m:=8) (Inv:=fun q t g9 n9=> ∃(m:Nat) (w r:Int) (d:Ln),q+m=8∧OneS g0 l2 l ld c S o g9 d∧ZcY S ln (Vs ln) m w r d∧Xeo t l2 l ld ln m jj v2∧t 9= .int .i64 w∧t 10= .int .i64 r) ?_
  ⟨0,0,0,d,rfl,hs,.inl ⟨rfl,fun i hi=>absurd hi (Nat.not_lt_zero i),Int.le_refl _,Int.le_refl _,fun h=>absurd h (by omega)⟩,ht,t9,t10⟩
 rintro I q t g9 n9 ih ⟨m,w,r,d,hm,h9,hQ,ht,t9,t10⟩
 simp only [XU,ht.t2,ht.t12,ht.t5,Jb]
 refine Qb (h9.cfg h2) (show (Qx c)[0+0]?=some (.int .i64 c.cores) from rfl) (Ze3 (Qp (fun hlt=> ?_) (fun hlt=> ?_)))
 ·rw [←hc] at hlt
  obtain ⟨N,hN⟩: ∃N,S.nodes[m]?=some N:=⟨_,List.getElem?_eq_getElem (by rw [hp.wf.nodes];omega)⟩
  obtain ⟨W,hW⟩:=h9.sys
  refine Qcm hW (hp.wf.fit (by omega)) (m:Nat) (fun v g10 n10 W10 u10 h10 sl=> ?_)
  have hsl:S.slots (m:Nat)=N.A.slots:=by unfold Sys.slots;rw [Sys.at_of hN]
  rw [hsl] at sl
  refine Jf9 hp hE hN (by omega) (fun t' g' n' w' r' d' a1 a2 a3 b9 b10=> ?_) (h9.step u10 h10) hQ (sl.mono (ZM _ _)) ⟨ht.t1,ht.t2,ht.t5,ht.t7,ht.t8,ht.t11,ht.t12⟩ t9 t10 rfl rfl
  exact ih (q-1) _ _ _ (by omega) ⟨m+1,w',r',d',by omega,a1,a2,a3,b9,b10⟩
 ·obtain ⟨q1,q2,q3⟩:=JfX hQ
  have j11: ∀(t':Env),Xeo t' l2 l ld ln m jj v2→ZB AC K I1 I3 t' g9 n9:=by
   intro t' a
   simp only [ZB,a.t8]
   rw [Qn,QaG (a:=ln) (by omega)]
   exact hI _ _ _ d h9 a.t1 a.t2 a.t5 a.t7 rfl
  have j10: ∀(t':Env),Xeo t' l2 l ld ln m jj v2→t' 9= .int .i64 w→t' 10= .int .i64 r→ZP AC K I1 I3 t' g9 n9:=by
   intro t' a b9 b10
   simp only [ZP,b9,b10]
   refine Xfm (Qp (fun x=>absurd x (by omega)) (fun _=> ?_))
   refine Xa5 (Qp (fun x=> ?_) (fun _=> ?_))
   ·refine Xfm (Qp (fun y=>absurd ⟨x,y⟩ q3) (fun _=> ?_))
    exact j11 _ ⟨a.t1,a.t2,a.t5,a.t7,a.t8,a.t11,a.t12⟩
   ·exact j11 _ ⟨a.t1,a.t2,a.t5,a.t7,a.t8,a.t11,a.t12⟩
  exact j10 _ ⟨ht.t1,ht.t2,ht.t5,ht.t7,ht.t8,ht.t11,ht.t12⟩ t9 t10
structure Xf6 (g0:G) (l:Nat) (S:Sys) (o:Col Cl) (g:G):Prop where
 s0:Sub g0 (unc o g)
 sys: ∃W,SysH o g l W S
set_option maxRecDepth 100000 in
theorem Xf9 {K:Cont} {I1:Zi} (h2:g0 l2=some (.cells (Qx c) .exact)) (hp:S.pr k Vs) (hk:k<900) (hj:jj<1000) (hc:S.c=c)
  (hI: ∀t' g' n',Xf6 g0 l S o g'→t' 1=v2→t' 2=ptr l2 0→t' 5=ptr l 0→t' 7= .int .i64 ((jj+1:Nat):Int)→I1 t' g' n')
  {t:Env} (hs:Xf6 g0 l S o g) (t1:t 1=v2) (t2:t 2=ptr l2 0) (t5:t 5=ptr l 0) (t7:t 7= .int .i64 (jj:Nat)) (t8:t 8= .int .i64 0):
  lfp (XV AC K I1) t g n:=by
 have hcl:=hp.wf.c.lines
 have hdl:=hp.wf.dir
 refine Z7 (m:=S.c.lines.toNat) (Inv:=fun q t g9 n9=> ∃(ln:Nat),q+ln=S.c.lines.toNat∧Xf6 g0 l S o g9∧t 1=v2∧t 2=ptr l2 0∧t 5=ptr l 0∧t 7= .int .i64 (jj:Nat)∧t 8= .int .i64 (ln:Nat)) ?_
  ⟨0,by omega,hs,t1,t2,t5,t7,t8⟩
 rintro I q t g9 n9 ih ⟨ln,hm,h9,t1,t2,t5,t7,t8⟩
 simp only [XV,t2,t8,Jb]
 refine Qb ((ZM _ _).live (h9.s0.live h2)) (show (Qx c)[0+1]?=some (.int .i64 c.lines) from rfl) (Ze3 (Qp (fun hlt=> ?_) (fun hlt=> ?_)))
 ·rw [←hc] at hlt
  obtain ⟨E,hE⟩: ∃E,S.dir[ln]?=some E:=⟨_,List.getElem?_eq_getElem (by omega)⟩
  obtain ⟨W,hW⟩:=h9.sys
  intro hn
  have on:o n9=none:=hW.live.fresh hn
  have un:unc o g9 n9=none:=by rw [Xm on];exact hn
  rw [Xeh]
  have s1:=(Sub.refl g9).new hn (some (.cells (Qm zeroL) .exact))
  refine Zgd (jj:=jj) (v2:=v2) h2 hp hk hc hE (fun t' g' n' d a b1 b2 b5 b7 b8=> ?_) (d:=zeroL) ⟨h9.s0.trans (Sub.uncs hW.live s1),⟨W,hW.mono s1⟩,h9.s0.none un,on,Xa _ _ _⟩ (by omega) ⟨t1,t2,t5,t7,t8,rfl,rfl⟩ rfl rfl
  exact ih (q-1) _ _ _ (by omega) ⟨ln+1,by omega,⟨a.s0,a.sys⟩,b1,b2,b5,b7,b8⟩
 ·have e7: ∀(t':Env),t' 1=v2→t' 2=ptr l2 0→t' 5=ptr l 0→t' 7= .int .i64 (jj:Nat)→Zs AC K I1 t' g9 n9:=by
   intro t' b1 b2 b5 b7
   simp only [Zs,b7]
   rw [Qn,QaG (a:=jj) (by omega)]
   exact hI _ _ _ h9 b1 b2 b5 rfl
  exact e7 _ t1 t2 t5 t7
end
def Xgj (g0:G) (l2 l:Nat) (v2:Value) (c:Cfg) (j:Nat) (t:Env) (g:G):Prop:=
 ∃(o:Col Cl) (W:JbO) (S:Sys) (Vs:Nat→Ln),Sub g0 (unc o g)∧SysH o g l W S∧S.pr j Vs∧S.c=c∧t 1=v2∧t 2=ptr l2 0∧t 5=ptr l 0∧t 7= .int .i64 (j:Nat)
set_option maxRecDepth 100000 in
theorem ZfI (c:Cfg) {v2:Value} {steps:List Stp} (h2:Sl Zat 5 g v2 steps) {K:Cont} (hK: ∀g' n',K (.bool true) g' n'):AC QS [.agg (Qx c).toArray,v2] g n K:=by
 refine ACalls.fold Jc ?_
 rw [←ZaW]
 simp only [Xas,Jf]
 intro hn
 have s1:=(Sub.refl g).new hn (some (.cells (Qx c) .exact))
 have x1:upd g n (some (.cells (Qx c) .exact)) n=some (.cells (Qx c) .exact):=Xa _ _ _
 generalize upd g n (some (.cells (Qx c) .exact))=g1 at s1 x1 ⊢
 have wk: ∀g' n',Xc K (.bool true) g' n':=fun g' n'=>Ja (Sub.refl _) (hK _ _)
 refine (h2.mono s1).len (Xfm (Qp (fun _=>Jbi wk) (fun hlen=> ?_)))
 refine Qy x1 (by simp [Qx]) ?_
 rw [show ((Qx c).drop 0).take 7=Qx c from rfl]
 refine Xei c (fun g2 n2 s2=>Xbg (Xt (fun _=>Jbi wk) (fun hg=> ?_)))
 have hgood:Jcu c=true:=by simpa using hg
 have hc:=Zeu hgood
 have x2:=s2.live x1
 refine Qb x2 (show (Qx c)[0+1]?=some (.int .i64 c.lines) from rfl) (Xfm (Qp (fun _=>Jbi wk) (fun hl16=> ?_)))
 refine Qy x2 (by simp [Qx]) ?_
 rw [show ((Qx c).drop 0).take 7=Qx c from rfl]
 refine Qc7 c (img:=[]) Sl.nil (fun hb=>absurd ⟨hgood,.inl rfl⟩ hb) (fun _ _ l o5 g5 n5 W5 u5 h5=> ?_)
 simp only [Zk,Jo,Qo]
 refine Zb4 (Qp (fun h=>absurd h (by decide)) (fun _=> ?_))
 refine XbH (Xt (fun h=>nomatch h) (fun _=> ?_))
 have hs5:Sl Zat 5 (unc o5 g5) v2 steps:=(h2.mono (s1.trans s2)).mono u5
 have h35:unc o5 g5 n=some (.cells (Qx c) .exact):=u5.live x2
 have hlen':steps.length≤400:=by omega
 refine Z7 (m:=steps.length) (Inv:=fun q t g9 n9=> ∃(j:Nat),q+j=steps.length∧Xgj (unc o5 g5) n l v2 c j t g9) ?_
  ⟨0,by omega,o5,W5,Qck c [],fun _=>zeroL,Sub.refl _,h5,XeI hc 0,rfl,rfl,rfl,rfl,rfl⟩
 rintro I q t g9 n9 ih ⟨j,hj,o9,W9,S9,Vs,u9,h9,p9,c9,t1,t2,t5,t7⟩
 simp only [Zaj,t1,t5,t7]
 have hs9:Sl Zat 5 g9 v2 steps:=(hs5.mono u9).mono (ZM _ _)
 refine hs9.len (Ze3 (Qp (fun hlt=> ?_) (fun hlt=>Jbi wk)))
 obtain ⟨x,hx⟩: ∃x,steps[j]?=some x:=⟨_,List.getElem?_eq_getElem (by omega)⟩
 refine hs9.idx JcK hx (fun li oi ha=> ?_)
 simp only [Jb]
 refine ha.ldN (by rw [JcK]) ?_
 refine ZfD h9 p9.wf (by omega) x (fun o11 g11 n11 W11 u11 h11=> ?_)
 have p11:=Jf6 p9 (by omega) x
 have c11:(S9.do x).1.c=c:=(Xgk S9 x).trans c9
 have us11:=u9.trans u11
 have next: ∀(t':Env) (n':Nat),t' 1=v2→t' 2=ptr n 0→t' 5=ptr l 0→t' 7= .int .i64 (j:Nat)→Zs AC K I t' g11 n':=by
  intro t' n' b1 b2 b5 b7
  simp only [Zs,b7]
  rw [Qn,QaG (a:=j) (by omega)]
  exact ih (q-1) _ _ _ (by omega) ⟨j+1,by omega,o11,W11,(S9.do x).1,_,us11,h11,p11,c11,b1,b2,b5,rfl⟩
 rw [JdN]
 refine ⟨by decide,?_⟩
 refine Zb4 (Qp (fun _=>next _ _ t1 t2 t5 t7) (fun _=> ?_))
 refine Xf9 (v2:=v2) (jj:=j) (c:=c) h35 p11 (by omega) (by omega) c11 (fun t' g' n' a b1 b2 b5 b7=> ?_) ⟨us11,W11,h11⟩ t1 t2 t5 t7 rfl
 obtain ⟨W12,h12⟩:=a.sys
 exact ih (q-1) _ _ _ (by omega) ⟨j+1,by omega,o11,W12,(S9.do x).1,_,a.s0,h12,p11,c11,b1,b2,b5,b7⟩
end Go.Proofs.YtjpckcikmfihlaaGreat.Gen
namespace Go.Proofs.YtjpckcikmfihlaaGreat.Gen
open Go Go.Proofs.YtjpckcikmfihlaaGreat.Abs Go.RowKit
variable {g:G} {n:Nat}
theorem Qf0 (c:List Value) (h:RepL g [.i .i64,.i .i64,.i .i64,.i .i64,.i .u64] c): ∃x,c=Zat x:=by
 obtain ⟨a1,r1,e1,_,h⟩:=Zb2 h
 obtain ⟨a2,r2,e2,_,h⟩:=Zb2 h
 obtain ⟨a3,r3,e3,_,h⟩:=Zb2 h
 obtain ⟨a4,r4,e4,_,h⟩:=Zb2 h
 obtain ⟨a5,r5,e5,_,h⟩:=Zb2 h
 have e:=JdF h
 subst e e5 e4 e3 e2 e1
 exact ⟨⟨a1,a2,a3,a4,a5⟩,rfl⟩
theorem ZfQ (c:List Value) (h:RepL g [.i .i64,.i .i64,.i .i64,.i .i64,.i .i64,.i .i64,.i .i64] c): ∃x,c=Qx x:=by
 obtain ⟨a1,r1,e1,_,h⟩:=Zb2 h
 obtain ⟨a2,r2,e2,_,h⟩:=Zb2 h
 obtain ⟨a3,r3,e3,_,h⟩:=Zb2 h
 obtain ⟨a4,r4,e4,_,h⟩:=Zb2 h
 obtain ⟨a5,r5,e5,_,h⟩:=Zb2 h
 obtain ⟨a6,r6,e6,_,h⟩:=Zb2 h
 obtain ⟨a7,r7,e7,_,h⟩:=Zb2 h
 have e:=JdF h
 subst e e7 e6 e5 e4 e3 e2 e1
 exact ⟨⟨a1,a2,a3,a4,a5,a6,a7⟩,rfl⟩
theorem Je9 {args:List Value} (hr:Zdy g [(true,[.i .i64,.i .i64,.i .i64,.i .i64,.i .i64,.i .i64,.i .i64]),(false,[.s [.i .i64,.i .i64,.i .i64,.i .i64,.i .u64]])] args): ∃c v2 steps,args=[.agg (Qx c).toArray,v2]∧Sl Zat 5 g v2 steps:=by
 cases hr with
 | cons h1 hr=>
 cases hr with
 | cons h3 hr=>
 cases hr
 obtain ⟨cs,e,h1⟩:=h1
 obtain ⟨c,e1⟩:=ZfQ _ h1
 obtain ⟨v3,r3,e3,h3,h3'⟩:=Xga h3
 have e3':=JdF h3'
 subst e3'
 cases e3
 subst e1 e
 obtain ⟨steps,hs,_⟩:=QfY Qf0 h3
 exact ⟨c,_,steps,rfl,hs⟩
end Go.Proofs.YtjpckcikmfihlaaGreat.Gen
namespace Go.Proofs.YtjpckcikmfihlaaGreat.Gen
open Go Go.Proofs.YtjpckcikmfihlaaGreat.Abs Go.RowKit
variable {g:G} {n:Nat}
theorem ZdI {args:List Value} (hr:Zdy g [(true,[.i .i64,.i .i64,.i .i64,.i .i64,.i .i64,.i .i64,.i .i64]),(false,[.s [.i .i64,.i .i64,.i .i64,.i .i64,.i .u64]])] args) {K:Cont} (hK: ∀g' n',K (.bool true) g' n'):AC QS args g n K:=by
 obtain ⟨c,v2,steps,rfl,hs⟩:=Je9 hr
 exact ZfI c hs hK
end Go.Proofs.YtjpckcikmfihlaaGreat.Gen
