import Derived.Test.YtkdfaijmjmnhjaaGreatSpecOwnC
/- What the functions come to. -/
set_option linter.all false
set_option linter.deprecated false
namespace Go.Proofs.YtkdfaijmjmnhjaaGreat.Gen
open Go Go.Proofs.YtkdfaijmjmnhjaaGreat.Abs Go.RowKit
variable {g:G} {n:Nat}
section
variable {K:Cont}
def codeF (is:List Ins):List Int:=is.map (fun i=>(Zat i).1)
theorem Zd9 {v:Value} {is:List Ins} (hv:Sl encI 5 g v is) (hop: ∀i∈is,0≤i.op∧i.op≤22) (hl:is.length≤4096) (hK: ∀v' g' n',Sub g g'→OwnS Xdi 1 g g' v' (codeF is)→K v' g' n'):AC JX [v] g n K:=by
 refine ACalls.fold Xb ?_
 rw [←ZbT]
 simp only [Xbd]
 refine X8 (m:=is.length) (Inv:=fun m t g1 n1=> ∃(j:Nat) (w:Value),m+j=is.length∧t 0=v∧t 3=w∧t 4= .int .i64 (j:Nat)∧Sub g g1∧OwnS Xdi 1 g g1 w (codeF (is.take j))) ?_
  ⟨0,_,by omega,rfl,rfl,rfl,Sub.refl _,OwnS.nil⟩
 rintro I m t g1 n1 ih ⟨j,w,hm,q0,q3,q4,s1,ho⟩
 simp only [JaO]
 rw [q0,q4,q3]
 have hv1:=hv.mono s1
 refine hv1.len (QdN (Xj (fun hj=> ?_) (fun hj=> ?_)))
 ·have hj':j<is.length:=by omega
  obtain ⟨i,hi⟩: ∃i,is[j]? =some i:=⟨_,List.getElem?_eq_getElem hj'⟩
  obtain ⟨h0,h1⟩:=hop i (List.mem_of_getElem? hi)
  refine hv1.idx XZ hi (fun l o ha=> ?_)
  rw [Zb]
  refine ha.ldN (by rw [XZ]) ?_
  refine XdY h0 h1 (fun g2 n2 s2=> ?_)
  refine Jav rfl (Jav rfl ?_)
  refine ⟨rfl,by decide,?_⟩
  rw [Jp]
  change Zq (Xdi (Zat i).1) .exact g2 n2 _
  intro hn
  have s3:=(Sub.refl g2).new hn (some (.cells (Xdi (Zat i).1) .exact))
  have x3:upd g2 n2 (some (.cells (Xdi (Zat i).1) .exact)) n2=some (.cells (Xdi (Zat i).1) .exact):=Xa _ _ _
  have hlt:(codeF (is.take j)).length=j:=by unfold codeF;rw [List.length_map,List.length_take];omega
  refine (ho.mono (s2.trans s3)).append ((s1.trans s2).trans s3) (Sl.one (QaQ _) x3) Qd9 (by decide) (by rw [hlt,List.length_singleton];omega) (by rw [hlt,List.length_singleton];omega) (fun v' g4 n4 k1 k2 _ _=> ?_)
  rw [Jh,JaL (by omega)]
  refine ih (m-1) _ _ _ (by omega) ⟨j+1,v',by omega,q0,rfl,rfl,k1,?_⟩
  have e:codeF (is.take (j+1))=codeF (is.take j)++[(Zat i).1]:=by unfold codeF;rw [take_add hi,List.map_append];rfl
  rw [e];exact k2
 ·have hjl:is.take j=is:=List.take_of_length_le (by omega)
  rw [hjl] at ho
  exact Ja (Sub.refl _) (hK _ _ _ s1 ho)
theorem XeB {is:List Ins} (hop: ∀i∈is,0≤i.op∧i.op≤22): ∀u∈codeF is,0≤u∧u<18446744073709551616:=by
 intro u hu
 obtain ⟨i,hi,rfl⟩:=List.mem_map.1 hu
 unfold Zat
 split
 ·rename_i hg
  exact (Zc2 (hop i hi).1 (hop i hi).2 hg).2
 ·exact ⟨Int.le_refl 0,by decide⟩
theorem XbS (w:CW) (o:Col Cl) (g:G):Sub (un w o g) g:=(Qg5 w o g).trans (J8 o g)
theorem JfL {a b c:Int} {K:List Value→Prop} (k:K (encI ⟨a,b,0,0,c⟩)):Xf (encI Xw) [(0,none,.int .i64 a),(1,none,.int .i64 b),(4,none,.int .i64 c)] K:=⟨rfl,by decide,rfl,Nat.le_of_ble_eq_true rfl,rfl,Nat.le_of_ble_eq_true rfl,k⟩
theorem Xcz {a b b' c:Int} {K:List Value→Prop} (k:K (encI ⟨a,b,b',0,c⟩)):Xf (encI Xw) [(0,none,.int .i64 a),(1,none,.int .i64 b),(2,none,.int .i64 b'),(4,none,.int .i64 c)] K:=⟨rfl,by decide,rfl,Nat.le_of_ble_eq_true rfl,rfl,Nat.le_of_ble_eq_true rfl,rfl,Nat.le_of_ble_eq_true rfl,k⟩
def wkI:List Ins:=[⟨1,1,0,0,5⟩,⟨9,1,0,0,192⟩,⟨8,2,0,0,192⟩,⟨8,3,0,0,193⟩]
def wkC:Cr:=JbI 0 2 (codeF wkI)
def wk1:Res:=wkC.exec wS0
def wk2:Res:=wk1.1.exec wk1.2.1
def wk3:Res:=wk2.1.exec wk2.2.1
def wk4:Res:=wk3.1.exec wk3.2.1
theorem wkOk:CSok wkC wS0 0:=CSok.new QcQ (by decide) (by decide) (XeB (by decide)) 0
theorem wkOk1:CSok wk1.1 wk1.2.1 3:=wkOk.exec (by decide)
theorem wkOk2:CSok wk2.1 wk2.2.1 6:=wkOk1.exec (by decide)
theorem Xhf:CSok wk3.1 wk3.2.1 9:=wkOk2.exec (by decide)
theorem Xhu:wk2.2.2=[⟨12,0,3,0,5⟩]:=by decide +kernel
theorem Qhs:wk3.2.2=[⟨2,0,3,0,5⟩]:=by decide +kernel
theorem Xhs:wk4.2.2=[⟨10,0,0,0,0⟩]:=by decide +kernel
theorem wkR:wk4.1.r=[0,5,5,0,0,0,0,0]:=by decide +kernel
theorem wkS:wk4.1.runs=false:=by decide +kernel
theorem wkB:wk4.1.b.length=1:=by decide +kernel
theorem ZdR {v:Value} {e:Evt} {K:Prop} (h:Sl JaM 5 g v [e]) {k:Nat} {x:Value} {J:Value→Prop} (hk:(JaM e)[k]? =some x) (kk:J x):Xd v (.int .i64 0) 5 fun p=>Qd p fun l o=>kLd g l (o+k) J:=by
 refine h.idx (j:=0) ZY rfl (fun l o ha=> ?_)
 rw [Zb]
 exact ha.ld hk kk
set_option maxRecDepth 100000 in
theorem Jcz (hK: ∀g' n',K (.bool true) g' n'):AC Jr [] g n K:=by
 refine ACalls.fold Xb ?_
 rw [←XbL]
 simp only [Za2]
 refine Xdr (fun g1 n1 s1=> ?_)
 refine XdV plainC (img:=[]) Sl.nil (fun h=>absurd ⟨rfl,.inl rfl⟩ h) (fun _ _ l o2 g2 n2 W2 s2 h2=> ?_)
 refine Jav rfl (Jav rfl ?_)
 refine JfL (Xcz (Xcz (Xcz ?_)))
 refine ⟨rfl,by decide,rfl,Nat.le_of_ble_eq_true rfl,rfl,Nat.le_of_ble_eq_true rfl,rfl,Nat.le_of_ble_eq_true rfl,?_⟩
 rw [Jp]
 change Zq (wkI.map encI).flatten .exact g2 n2 _
 intro hn
 have s3:=(Sub.refl g2).new hn (some (.cells (wkI.map encI).flatten .exact))
 have x3:upd g2 n2 (some (.cells (wkI.map encI).flatten .exact)) n2=some (.cells (wkI.map encI).flatten .exact):=Xa _ _ _
 have h3:=h2.mono s3
 generalize upd g2 n2 (some (.cells (wkI.map encI).flatten .exact))=g3 at s3 x3 h3
 have hsl:Sl encI 5 g3 (.slice (some ⟨n2,0,none⟩) 4 4) wkI:=Rd.lit x3 rfl
 refine Zd9 hsl (by decide) (by decide) (fun v4 g4 n4 s4 o4=> ?_)
 have h4:=h3.mono s4
 refine Zd2 (o:=o2) (Qbl h3.live o4) h4.live (by decide) (by decide) (by decide) (fun w g5 n5 s5 hfr c5=> ?_)
 have h5:=h4.mono s5
 refine Jav rfl (Jav rfl ?_)
 refine QbE (Zc rfl (QbE (Zc rfl (QaY (Zc rfl (QaY (Zc rfl ?_)))))))
 refine QaT h5 c5 wkOk (by decide) (fun v6 o6 g6 n6 W6 h6 c6 u6 _=> ?_)
 refine QaT h6 c6 wkOk1 (by decide) (fun v7 o7 g7 n7 W7 h7 c7 u7 e7=> ?_)
 refine QaT h7 c7 wkOk2 (by decide) (fun v8 o8 g8 n8 W8 h8 c8 u8 e8=> ?_)
 refine QaT h8 c8 Xhf (by decide) (fun v9 o9 g9 n9 W9 h9 c9 u9 e9=> ?_)
 have a7:Sl JaM 5 g9 v7 wk2.2.2:=(e7.mono (u8.trans u9)).mono (XbS _ _ _)
 have a8:Sl JaM 5 g9 v8 wk3.2.2:=(e8.mono u9).mono (XbS _ _ _)
 have a9:Sl JaM 5 g9 v9 wk4.2.2:=e9.mono (XbS _ _ _)
 rw [Xhu] at a7
 rw [Qhs] at a8
 rw [Xhs] at a9
 refine a7.len (Zae (Jd rfl ?_))
 refine ZdR (K:=True) a7 (k:=0) rfl (Zae (Jd rfl ?_))
 refine ZdR (K:=True) a7 (k:=2) rfl (Zae (Jd rfl ?_))
 refine a8.len (Zae (Jd rfl ?_))
 refine ZdR (K:=True) a8 (k:=0) rfl (Zae (Jd rfl ?_))
 refine ZdR (K:=True) a8 (k:=4) rfl (Zae (Jd rfl ?_))
 refine a9.len (Zae (Jd rfl ?_))
 refine ZdR (K:=True) a9 (k:=0) rfl (Zae (Jd rfl ?_))
 have c9:CoH o9 g9 w wk4.1:=c9
 refine Ze7 c9 (fun g10 n10 s10=> ?_)
 rw [wkR]
 refine ⟨by decide,by decide,?_⟩
 simp only [Xby]
 refine Jb3 (v:= .int .u64 5) rfl (Zae (Jd rfl ?_))
 have c10:=c9.mono s10
 refine Xdo c10 (fun n11=> ?_)
 rw [wkS]
 refine ZaK (Jd rfl ?_)
 refine ZcF c10 (fun v12 g12 n12 s12 e12=> ?_)
 refine e12.len (Zae ?_)
 rw [wkB]
 exact Ja (Sub.refl _) (hK _ _)
end
end Go.Proofs.YtkdfaijmjmnhjaaGreat.Gen
namespace Go.Proofs.YtkdfaijmjmnhjaaGreat.Gen
open Go Go.Proofs.YtkdfaijmjmnhjaaGreat.Abs Go.RowKit
variable {g:G} {n:Nat}
def noG:G:=fun _=>none
section
variable {o:Col Cl} {ls:Nat} {W:XaS} {w:CW} {S:Sys} {C:Cr} {K:Cont} {k:Nat}
theorem OutH.unw {α:Type} {enc:α→List Value} {z:Nat} {F:G} {v:Value} {xs:List α} {o':Col Cl} {g':G} (h:OutH enc z F w.L o g v xs) (k:Sub (un w o g) (un w o' g')):OutH enc z F w.L o' g' v xs:=
 h.keep fun l b hl ho hg=>by
  have:=k.live (show un w o g l=some b by rw [Jc7 (fun h=>hl (CW.memL h)) ho];exact hg)
  exact ⟨(Zbn this).2.1,(Zbn this).2.2⟩
structure AS (o:Col Cl) (g:G) (ls:Nat) (W:XaS) (w:CW) (S:Sys) (C:Cr) (k:Nat) (v:Value) (evs:List Evt):Prop where
 sys:SysH o g ls W S
 co:CoH o g w C
 ok:CSok C S k
 out:OutH JaM 5 noG w.L o g v evs
variable {v:Value} {evs:List Evt}
theorem AS.app (h:AS o g ls W w S C k v evs) {x:Value} {ys:List Evt} (hx:Sl JaM 5 g x ys) (hl:evs.length+ys.length<1000000) (hK: ∀v' g' n',AS o g' ls W w S C k v' (evs++ys)→K v' g' n'):Zt v x 5 40 g n K:=by
 refine h.out.append ZY h.sys.live ?_ (fun l b hF=>nomatch hF) hx Xck (by decide) (by omega) (by omega) (fun v' g2 n2 k1 k2 ho2=> ?_)
 ·obtain ⟨ds,e1,e2⟩:=h.co.hp
  obtain ⟨L,f,hr⟩:=id h.co.hb
  intro l hl
  rcases CW.ofL hl with rfl|rfl|rfl
  ·exact ⟨_,h.co.hc⟩
  ·exact ⟨_,e2⟩
  ·exact ⟨_,hr.hb⟩
 ·exact hK _ _ _ ⟨h.sys.same (fun l c e=>k1 l (.inr (.inr (by rw [e];simp)))),h.co.keep (fun l b hm ho' hg=>⟨ho',(k1 l (.inl (CW.memL hm))).trans hg⟩),h.ok,ho2⟩
theorem JeM (C:Cr) (S:Sys):(C.exec S).2.2.length≤2:=by
 unfold Cr.exec
 split
 ·exact Nat.zero_le _
 ·split
  ·exact Nat.le_succ 1
  ·split
   ·exact Nat.le_succ 1
   ·unfold Cr.doX
    split
    ·exact Nat.zero_le _
    split
    ·exact Nat.zero_le _
    split
    ·unfold Cr.loadX
     split
     ·exact Nat.le_succ 1
     ·split
      ·exact Nat.le_succ 1
      ·split
       ·exact Nat.le_succ 1
       ·exact Nat.zero_le _
    split
    ·unfold Cr.putX
     split
     ·exact Nat.le_succ 1
     ·split
      ·exact Nat.zero_le _
      ·exact Nat.le_succ 1
    split
    ·unfold Cr.fenceX
     split
     ·exact Nat.le_succ 1
     ·exact Nat.zero_le _
    split
    ·unfold Cr.lockX
     split
     ·exact Nat.le_succ 1
     ·split
      ·exact Nat.zero_le _
      ·split
       ·exact Nat.zero_le _
       ·split
        ·exact Nat.le_refl 2
        ·split
         ·exact Nat.le_refl 2
         ·exact Nat.le_succ 1
    split
    ·exact Nat.le_succ 1
    split
    ·exact Nat.le_succ 1
    ·exact Nat.zero_le _
theorem Qcs (C:Cr) (S:Sys) (l q:Int):(C.flushX S l q).1.2.2.length≤1:=by
 unfold Cr.flushX
 split
 ·exact Nat.zero_le _
 ·split
  ·exact Nat.zero_le _
  ·exact Nat.le_refl 1
theorem Qc7 (C:Cr) (S:Sys):(C.drain S).2.2.length≤1:=by
 unfold Cr.drain
 split
 ·exact Nat.zero_le _
 ·split
  ·split
   ·exact Nat.le_refl 1
   ·exact Nat.zero_le _
  split
  ·split<;>exact Qcs _ _ _ _
  split
  ·split<;>exact Qcs _ _ _ _
  split
  ·split<;>exact Nat.zero_le _
  ·split<;>exact Qcs _ _ _ _
theorem AS.exec (h:AS o g ls W w S C k v evs) (hk:k+3<100000) (hK: ∀x o' g' n' W',AS o' g' ls W' w (C.exec S).2.1 (C.exec S).1 (k+3) v evs→Sl JaM 5 g' x (C.exec S).2.2→K x g' n'):AC Qo [ptr w.lc 0,ptr ls 0] g n K:=
 QaT h.sys h.co h.ok hk fun x o' g' n' W' h1 h2 h3 h4=>hK _ _ _ _ _ ⟨h1,h2,h.ok.exec hk,h.out.unw h3⟩ (h4.mono (XbS _ _ _))
theorem AS.drain (h:AS o g ls W w S C k v evs) (hk:k<100000) (hK: ∀x o' g' n' W',AS o' g' ls W' w (C.drain S).2.1 (C.drain S).1 (k+1) v evs→Sl JaM 5 g' x (C.drain S).2.2→K x g' n'):AC Jo [ptr w.lc 0,ptr ls 0] g n K:=
 Zc1 h.sys h.co h.ok hk fun x o' g' n' W' h1 h2 h3 h4=>hK _ _ _ _ _ ⟨h1,h2,h.ok.drain hk,h.out.unw h3⟩ (h4.mono (XbS _ _ _))
theorem AS.hearC (h:AS o g ls W w S C k v evs) (m:Ms) (hK: ∀x g' n',AS o g' ls W w S (C.hear m).1 k v evs→Sl JaM 5 g' x (C.hear m).2→K x g' n'):AC JN [ptr w.lc 0,.agg (Qk m).toArray] g n K:=
 Zdw h.sys h.co h.ok.ok.waits m fun x g' n' h1 h2 h3 h4=>hK _ _ _ ⟨h1,h2,h.ok.hearC m,h.out.unw h3⟩ (h4.mono (XbS _ _ _))
theorem AS.sysop {o':Col Cl} {g':G} {W':XaS} {S':Sys} {k':Nat} (h:AS o g ls W w S C k v evs) (u:Sub (unc o g) (unc o' g')) (hs:SysH o' g' ls W' S') (hc:CSok C S' k'):AS o' g' ls W' w S' C k' v evs:=
 ⟨hs,h.co.unc u,hc,h.out.unc u⟩
theorem AS.mono {g':G} (h:AS o g ls W w S C k v evs) (s:Sub g g'):AS o g' ls W w S C k v evs:=h.sysop (Sub.uncs h.sys.live s) (h.sys.mono s) h.ok
theorem AS.up (h:AS o g ls W w S C k v evs) (i:Int) (hK: ∀x o' g' n' W',AS o' g' ls W' w (S.up i).1 C k v evs→K x g' n'):AC QO [ptr ls 0,.int .i64 i] g n K:=
 Xez h.sys h.ok.wf.shp (Xhp h.ok.wf) _ fun o' g' n' W' u h'=>hK _ _ _ _ _ (h.sysop u h' (h.ok.up i))
theorem AS.answer (h:AS o g ls W w S C k v evs) (i:Int) (hK: ∀x o' g' n' W',AS o' g' ls W' w (S.answer i).1 C k v evs→K x g' n'):AC XU [ptr ls 0,.int .i64 i] g n K:=
 XcD h.sys (JgY h.ok.wf) _ fun o' g' n' W' u h'=>hK _ _ _ _ _ (h.sysop u h' (h.ok.answer i))
theorem AS.push (h:AS o g ls W w S C k v evs) (i:Int) (hK: ∀x o' g' n' W',AS o' g' ls W' w (S.push i).1 C k v evs→K x g' n'):AC Z6 [ptr ls 0,.int .i64 i] g n K:=
 Qdk h.sys h.ok.wf.shp _ fun o' g' n' W' u h'=>hK _ _ _ _ _ (h.sysop u h' (h.ok.push i))
theorem AS.drainS (h:AS o g ls W w S C k v evs) (i:Int) (hK: ∀x o' g' n' W',AS o' g' ls W' w (S.drain i).1 C k v evs→K x g' n'):AC Zal [ptr ls 0,.int .i64 i] g n K:=
 Qet h.sys h.ok.wf.shp _ fun o' g' n' W' u h'=>hK _ _ _ _ _ (h.sysop u h' (h.ok.drainS i))
theorem AS.hear (h:AS o g ls W w S C k v evs) (hk:k<100000) (i:Int) (hK: ∀o' g' n' W',AS o' g' ls W' w (S.hear i).1 C (k+1) v evs→K (.tuple #[.agg (Qk (S.hear i).2.1).toArray,.int .i64 (S.hear i).2.2]) g' n'):AC ZG [ptr ls 0,.int .i64 i] g n K:=
 Jdw h.sys (h.ok.wf.fit hk) _ fun o' g' n' W' u h'=>hK _ _ _ _ (h.sysop u h' (h.ok.hear hk i))
theorem CSok.le (h:CSok C S k) {k':Nat} (hk:k≤k'):CSok C S k':=⟨h.ok,h.cn,h.wf.le hk,h.sn⟩
theorem Jhj {m:Ms} {K:Nat→List Value→G→Nat→Prop} (k: ∀g',Sub g g'→K n (Qk m) g' (n+1)):
  Zq [.int .i64 0,.int .i64 0,.bool false,.bool false,.int .u64 0,.int .u64 0,.int .u64 0,.int .u64 0,.int .u64 0,.int .u64 0,.int .u64 0,.int .u64 0] .exact g n fun l g1 n1=>Zn (.agg (Qk m).toArray) fun cg=>cg.length=12∧Xu g1 l 0 cg fun g2=>Zo g2 l 0 12 fun c=>K l c g2 n1:=by
 change Zq (Qk Jl) .exact g n _
 intro hn
 have s1:=(Sub.refl g).new hn (some (.cells (Qk Jl) .exact))
 rw [Xe]
 refine stM (m:=m) (z:=Jl) (Xa _ _ _) (fun x2=> ?_)
 refine ldM x2 (k _ (s1.upd_fresh _ hn))
end
end Go.Proofs.YtkdfaijmjmnhjaaGreat.Gen
namespace Go.Proofs.YtkdfaijmjmnhjaaGreat.Gen
open Go Go.Proofs.YtkdfaijmjmnhjaaGreat.Abs Go.RowKit
section
variable {a b c d e:Int} {K:List Value→Prop}
theorem fI0 (k:K (encI ⟨a,0,0,0,0⟩)):Xf (encI Xw) [(0,none,.int .i64 a)] K:=⟨rfl,by decide,k⟩
theorem Zhs (k:K (encI ⟨a,b,0,0,0⟩)):Xf (encI Xw) [(0,none,.int .i64 a),(1,none,.int .i64 b)] K:=⟨rfl,by decide,rfl,Nat.le_of_ble_eq_true rfl,k⟩
theorem Xgy (k:K (encI ⟨a,b,0,0,e⟩)):Xf (encI Xw) [(0,none,.int .i64 a),(1,none,.int .i64 b),(4,none,.int .i64 e)] K:=⟨rfl,by decide,rfl,Nat.le_of_ble_eq_true rfl,rfl,Nat.le_of_ble_eq_true rfl,k⟩
def Jbh:Nat→List Ins→List (Nat×Option Nat×Value)
 | _,[]=>[]
 | j,i::r=>(j*5,some 5,.agg (encI i).toArray)::Jbh (j+1) r
theorem Xey: ∀(is done:List Ins),K (((done++is).map encI).flatten)→Xf ((done.map encI).flatten++reps is.length (encI Xw)) (Jbh done.length is) K
 | [],done,k=>by
  simp only [Jbh,Jp]
  simpa [reps] using k
 | i::r,done,k=>by
  have hl:(done.map encI).flatten.length=done.length*5:=Xh encI 5 XZ done
  have hr:(reps (i::r).length (encI Xw)).length=(r.length+1)*5:=by simp [reps,XZ]
  refine ⟨XZ _,by rw [List.length_append,hl,hr];omega,?_⟩
  have e:splice ((done.map encI).flatten++reps (i::r).length (encI Xw)) (done.length*5) (encI i)=((done++[i]).map encI).flatten++reps r.length (encI Xw):=by
   unfold splice
   rw [List.take_left' hl,XZ,←hl,List.drop_append,List.drop_of_length_le (by omega),show (List.map encI done).flatten.length+5-(List.map encI done).flatten.length=5 by omega]
   have e2:reps (i::r).length (encI Xw)=encI Xw++reps r.length (encI Xw):=by simp [reps,List.replicate_succ]
   rw [e2,List.drop_left' (XZ _)]
   simp
  have:=Xey r (done++[i]) (by simpa using k)
  rw [List.length_append,List.length_singleton] at this
  show Xf (splice _ (done.length*5) (encI i)) (Jbh (done.length+1) r) K
  rw [e];exact this
theorem Zgm {is:List Ins} (k:K ((is.map encI).flatten)):Xf (reps is.length (encI Xw)) (Jbh 0 is) K:=by
 have:=Xey (K:=K) is [] (by simpa using k)
 simpa using this
end
end Go.Proofs.YtkdfaijmjmnhjaaGreat.Gen
namespace Go.Proofs.YtkdfaijmjmnhjaaGreat.Gen
open Go Go.Proofs.YtkdfaijmjmnhjaaGreat.Abs Go.RowKit
variable {g:G} {n:Nat}
end Go.Proofs.YtkdfaijmjmnhjaaGreat.Gen
namespace Go.Proofs.YtkdfaijmjmnhjaaGreat.Gen
open Go Go.Proofs.YtkdfaijmjmnhjaaGreat.Abs Go.RowKit
def Cr.execI (is:List Ins) (C:Cr) (S:Sys):Res:=if C.runs=false then (C,S,[]) else match is[C.place.toNat]? with
 | none=>C.trap S
 | some i=>C.doX S i
def Zgt (is:List Ins):Prop:= ∀i∈is,(0≤i.op∧i.op≤22)∧Xz i=true
theorem ZgZ {is:List Ins} {C:Cr} (hus:C.us=codeF is) (hg:Zgt is) (S:Sys):C.exec S=C.execI is S:=by
 unfold Cr.exec Cr.execI
 rw [hus]
 unfold codeF
 rw [List.getElem?_map]
 split
 ·rfl
 ·cases hi:is[C.place.toNat]? with
  | none=>rfl
  | some i=>
   obtain ⟨ho,hgi⟩:=hg i (List.mem_of_getElem? hi)
   have e:(Zat i).1=Qc9 i:=by unfold Zat;rw [if_pos hgi]
   simp only [Option.map_some,e]
   rw [(Zc2 ho.1 ho.2 hgi).1]
end Go.Proofs.YtkdfaijmjmnhjaaGreat.Gen
namespace Go.Proofs.YtkdfaijmjmnhjaaGreat.Gen
open Go Go.Proofs.YtkdfaijmjmnhjaaGreat.Abs Go.RowKit
section
variable (a b c:Int)
end
end Go.Proofs.YtkdfaijmjmnhjaaGreat.Gen
namespace Go.Proofs.YtkdfaijmjmnhjaaGreat.Gen
open Go Go.Proofs.YtkdfaijmjmnhjaaGreat.Abs Go.RowKit
theorem Zgu:(wS0.up 0).1=wS0:=by kernel_rfl
theorem Xfx:wS0.hear 0=(wS0,Jl,14):=by kernel_rfl
def at_ (us:List Int) (j:Nat):Cr:={ JbI 0 2 us with place:=(j:Nat) }
theorem Zgk {a:Int} (ha:0≤a∧a≤65535):Xz ⟨1,1,0,0,a⟩=true:=by
 have e:Za7 ⟨1,1,0,0,a⟩=true:=by
  unfold Za7
  rw [if_pos (show JaT 1 73=true by decide)]
  simp;omega
 unfold Xz
 rw [e]
 show (Xaf 1 (JaT 1 65)&&(Xaf 0 (JaT 1 66)&&(Xaf 0 (JaT 1 67)&&true)))=true
 decide
end Go.Proofs.YtkdfaijmjmnhjaaGreat.Gen
namespace Go.Proofs.YtkdfaijmjmnhjaaGreat.Gen
open Go Go.Proofs.YtkdfaijmjmnhjaaGreat.Abs Go.RowKit
variable {g:G} {n:Nat}
theorem Xhh {x:Int} (h:(Lit.int .u8 x).wf=true):0≤x∧x≤255:=by
 simp only [Lit.wf,Bool.and_eq_true,decide_eq_true_eq] at h
 exact h
end Go.Proofs.YtkdfaijmjmnhjaaGreat.Gen
namespace Go.Proofs.YtkdfaijmjmnhjaaGreat.Gen
open Go Go.Proofs.YtkdfaijmjmnhjaaGreat.Abs Go.RowKit
variable {g:G} {n:Nat}
section
variable {o:Col Cl} {ls:Nat} {W:XaS} {w:CW} {S:Sys} {C:Cr} {K:Cont} {k:Nat}
structure BS (o:Col Cl) (g:G) (ls:Nat) (W:XaS) (w:CW) (S:Sys) (C:Cr) (k:Nat):Prop where
 sys:SysH o g ls W S
 co:CoH o g w C
 ok:CSok C S k
theorem BS.exec (h:BS o g ls W w S C k) (hk:k+3<100000) (hK: ∀x o' g' n' W',BS o' g' ls W' w (C.exec S).2.1 (C.exec S).1 (k+3)→Sub (un w o g) (un w o' g')→Sl JaM 5 (un w o' g') x (C.exec S).2.2→K x g' n'):AC Qo [ptr w.lc 0,ptr ls 0] g n K:=
 QaT h.sys h.co h.ok hk fun x o' g' n' W' h1 h2 h3 h4=>hK _ _ _ _ _ ⟨h1,h2,h.ok.exec hk⟩ h3 h4
theorem BS.drain (h:BS o g ls W w S C k) (hk:k<100000) (hK: ∀x o' g' n' W',BS o' g' ls W' w (C.drain S).2.1 (C.drain S).1 (k+1)→Sub (un w o g) (un w o' g')→Sl JaM 5 (un w o' g') x (C.drain S).2.2→K x g' n'):AC Jo [ptr w.lc 0,ptr ls 0] g n K:=
 Zc1 h.sys h.co h.ok hk fun x o' g' n' W' h1 h2 h3 h4=>hK _ _ _ _ _ ⟨h1,h2,h.ok.drain hk⟩ h3 h4
theorem BS.hearC (h:BS o g ls W w S C k) (m:Ms) (hK: ∀x g' n',BS o g' ls W w S (C.hear m).1 k→Sub (un w o g) (un w o g')→K x g' n'):AC JN [ptr w.lc 0,.agg (Qk m).toArray] g n K:=
 Zdw h.sys h.co h.ok.ok.waits m fun x g' n' h1 h2 h3 h4=>hK _ _ _ ⟨h1,h2,h.ok.hearC m⟩ h3
theorem BS.sysop {o':Col Cl} {g':G} {W':XaS} {S':Sys} {k':Nat} (h:BS o g ls W w S C k) (u:Sub (unc o g) (unc o' g')) (hs:SysH o' g' ls W' S') (hc:CSok C S' k'):BS o' g' ls W' w S' C k':=⟨hs,h.co.unc u,hc⟩
theorem BS.mono {g':G} (h:BS o g ls W w S C k) (s:Sub g g'):BS o g' ls W w S C k∧Sub (un w o g) (un w o g'):=⟨h.sysop (Sub.uncs h.sys.live s) (h.sys.mono s) h.ok,QaW (Sub.uncs h.sys.live s)⟩
theorem BS.up (h:BS o g ls W w S C k) (i:Int) (hK: ∀x o' g' n' W',BS o' g' ls W' w (S.up i).1 C k→Sub (un w o g) (un w o' g')→K x g' n'):AC QO [ptr ls 0,.int .i64 i] g n K:=
 Xez h.sys h.ok.wf.shp (Xhp h.ok.wf) _ fun o' g' n' W' u h'=>hK _ _ _ _ _ (h.sysop u h' (h.ok.up i)) (QaW u)
theorem BS.answer (h:BS o g ls W w S C k) (i:Int) (hK: ∀x o' g' n' W',BS o' g' ls W' w (S.answer i).1 C k→Sub (un w o g) (un w o' g')→K x g' n'):AC XU [ptr ls 0,.int .i64 i] g n K:=
 XcD h.sys (JgY h.ok.wf) _ fun o' g' n' W' u h'=>hK _ _ _ _ _ (h.sysop u h' (h.ok.answer i)) (QaW u)
theorem BS.push (h:BS o g ls W w S C k) (i:Int) (hK: ∀x o' g' n' W',BS o' g' ls W' w (S.push i).1 C k→Sub (un w o g) (un w o' g')→K x g' n'):AC Z6 [ptr ls 0,.int .i64 i] g n K:=
 Qdk h.sys h.ok.wf.shp _ fun o' g' n' W' u h'=>hK _ _ _ _ _ (h.sysop u h' (h.ok.push i)) (QaW u)
theorem BS.hear (h:BS o g ls W w S C k) (hk:k<100000) (i:Int) (hK: ∀o' g' n' W',BS o' g' ls W' w (S.hear i).1 C (k+1)→Sub (un w o g) (un w o' g')→K (.tuple #[.agg (Qk (S.hear i).2.1).toArray,.int .i64 (S.hear i).2.2]) g' n'):AC ZG [ptr ls 0,.int .i64 i] g n K:=
 Jdw h.sys (h.ok.wf.fit hk) _ fun o' g' n' W' u h'=>hK _ _ _ _ (h.sysop u h' (h.ok.hear hk i)) (QaW u)
end
end Go.Proofs.YtkdfaijmjmnhjaaGreat.Gen
namespace Go.Proofs.YtkdfaijmjmnhjaaGreat.Gen
open Go Go.Proofs.YtkdfaijmjmnhjaaGreat.Abs Go.RowKit
variable {g:G} {n:Nat}
theorem Sl.ofSub {α β:Type} {enc:β→List Value} {z:Nat} {v:Value} {f:α→β} {xs:List α} (h:Sl (fun x=>enc (f x)) z g v xs):Sl enc z g v (xs.map f):=by
 unfold Sl at h ⊢
 rw [List.length_map,List.map_map];exact h
end Go.Proofs.YtkdfaijmjmnhjaaGreat.Gen
namespace Go.Proofs.YtkdfaijmjmnhjaaGreat.Gen
open Go Go.Proofs.YtkdfaijmjmnhjaaGreat.Abs Go.RowKit
def ow4 (i:Nat) (v:Int):List Ins:=[⟨1,1,0,0,v+1⟩,⟨9,1,0,0,192+8*((i:Int)%3)⟩,⟨8,2,0,0,192+8*((i:Int)%3)⟩,⟨21,2,0,0,0⟩]
def XaO:Nat→List Int→List Ins
 | _,[]=>[]
 | i,v::r=>ow4 i v++XaO (i+1) r
def owI (vals:List Int):List Ins:=XaO 0 vals++[⟨22,0,0,0,0⟩]
theorem Xbf (vals:List Int): ∀k,(XaO k vals).length=4*vals.length:=by
 induction vals with
 | nil=>intro k;rfl
 | cons v r ih=>intro k;show (ow4 k v++XaO (k+1) r).length=_;rw [List.length_append,ih,List.length_cons];show 4+_=_;omega
theorem Jel (vals:List Int) (v:Int): ∀k,XaO k (vals++[v])=XaO k vals++ow4 (k+vals.length) v:=by
 induction vals with
 | nil=>intro k;show ow4 k v++[]=[]++ow4 (k+0) v;simp
 | cons x r ih=>
  intro k
  show ow4 k x++XaO (k+1) (r++[v])=(ow4 k x++XaO (k+1) r)++_
  rw [ih,List.append_assoc,List.length_cons,show k+1+r.length=k+(r.length+1) by omega]
theorem Zfe {vals:List Int} {j:Nat} (hj:j<4): ∀{i k:Nat} {v:Int},vals[i]? =some v→(XaO k vals)[4*i+j]? =(ow4 (k+i) v)[j]? :=by
 induction vals with
 | nil=>intro i k v h;cases i<;>cases h
 | cons x r ih=>
  intro i k v h
  show (ow4 k x++XaO (k+1) r)[4*i+j]? =_
  cases i with
  | zero=>
   cases h
   rw [List.getElem?_append_left (by show 4*0+j<4;omega),show 4*0+j=j by omega];rfl
  | succ i=>
   rw [List.getElem?_append_right (by show 4≤4*(i+1)+j;omega)]
   show (XaO (k+1) r)[4*(i+1)+j-4]? =_
   rw [show 4*(i+1)+j-4=4*i+j by omega,ih (k:=k+1) (v:=v) h,show k+1+i=k+(i+1) by omega]
theorem ZgO {vals:List Int} {p:Nat} (hp:p<4*vals.length):(owI vals)[p]? =(ow4 (p/4) (vals.getD (p/4) 0))[p%4]? :=by
 have hi:p/4<vals.length:=by omega
 have hg:vals[p/4]? =some (vals.getD (p/4) 0):=by rw [List.getD_eq_getElem?_getD,List.getElem?_eq_getElem hi];rfl
 unfold owI
 rw [List.getElem?_append_left (by rw [Xbf];exact hp)]
 have:=Zfe (j:=p%4) (Nat.mod_lt _ (by decide)) (k:=0) hg
 rw [show 4*(p/4)+p%4=p by omega,Nat.zero_add] at this
 exact this
theorem Xgv (vals:List Int):(owI vals)[4*vals.length]? =some ⟨22,0,0,0,0⟩:=by
 unfold owI
 rw [List.getElem?_append_right (by rw [Xbf];omega),Xbf,Nat.sub_self];rfl
def owS1:Sys:=(((wS0.store 0 3 0 1).1.up 0).1.hear 0).1
def owN:Nd:=owS1.nodes.getD 0 (nd0 plainC)
def owS (st:Int) (d:Ln) (u:Int):Sys:={ owS1 with nodes:=owS1.nodes.set 0 { owN with A:={ owN.A with l:=owN.A.l.set 0 ⟨st,3,d,u⟩,used:=u } } }
theorem ZgJ (x:Int):(wS0.store 0 3 0 x).2=false:=by kernel_rfl
theorem Qhb (x:Int):(((wS0.store 0 3 0 x).1.up 0).1.hear 0).1=owS 2 zeroL 2:=by kernel_rfl
theorem Qes (d:Ln) (u v:Int):(owS 2 d u).store 0 3 0 v=(owS 3 (d.put 0 v) (u+1),true):=by kernel_rfl
theorem Qew (d:Ln) (u v:Int):(owS 3 d u).store 0 3 0 v=(owS 3 (d.put 0 v) (u+1),true):=by kernel_rfl
theorem XfF {st:Int} (h:st=2∨st=3) (d:Ln) (u v:Int):(owS st d u).store 0 3 0 v=(owS 3 (d.put 0 v) (u+1),true):=by
 rcases h with rfl|rfl
 ·exact Qes d u v
 ·exact Qew d u v
theorem Jfa (d:Ln) (u v:Int):(owS 2 d u).load 0 3 0=(owS 2 d (u+1),d.1.getD 0 0,true):=by kernel_rfl
theorem QeW (d:Ln) (u v:Int):(owS 3 d u).load 0 3 0=(owS 3 d (u+1),d.1.getD 0 0,true):=by kernel_rfl
theorem Jf6 {st:Int} (h:st=2∨st=3) (d:Ln) (u v:Int):(owS st d u).load 0 3 0=(owS st d (u+1),d.1.getD 0 0,true):=by
 rcases h with rfl|rfl
 ·exact Jfa d u v
 ·exact QeW d u v
theorem Qeo (d:Ln) (u v:Int):(owS 2 d u).store 0 3 1 v=(owS 3 (d.put 1 v) (u+1),true):=by kernel_rfl
theorem Zej (d:Ln) (u v:Int):(owS 3 d u).store 0 3 1 v=(owS 3 (d.put 1 v) (u+1),true):=by kernel_rfl
theorem XfE {st:Int} (h:st=2∨st=3) (d:Ln) (u v:Int):(owS st d u).store 0 3 1 v=(owS 3 (d.put 1 v) (u+1),true):=by
 rcases h with rfl|rfl
 ·exact Qeo d u v
 ·exact Zej d u v
theorem Je6 (d:Ln) (u v:Int):(owS 2 d u).load 0 3 1=(owS 2 d (u+1),d.1.getD 1 0,true):=by kernel_rfl
theorem Qe0 (d:Ln) (u v:Int):(owS 3 d u).load 0 3 1=(owS 3 d (u+1),d.1.getD 1 0,true):=by kernel_rfl
theorem Qgi {st:Int} (h:st=2∨st=3) (d:Ln) (u v:Int):(owS st d u).load 0 3 1=(owS st d (u+1),d.1.getD 1 0,true):=by
 rcases h with rfl|rfl
 ·exact Je6 d u v
 ·exact Qe0 d u v
theorem Qer (d:Ln) (u v:Int):(owS 2 d u).store 0 3 2 v=(owS 3 (d.put 2 v) (u+1),true):=by kernel_rfl
theorem Xeo (d:Ln) (u v:Int):(owS 3 d u).store 0 3 2 v=(owS 3 (d.put 2 v) (u+1),true):=by kernel_rfl
theorem Zfz {st:Int} (h:st=2∨st=3) (d:Ln) (u v:Int):(owS st d u).store 0 3 2 v=(owS 3 (d.put 2 v) (u+1),true):=by
 rcases h with rfl|rfl
 ·exact Qer d u v
 ·exact Xeo d u v
theorem JeU (d:Ln) (u v:Int):(owS 2 d u).load 0 3 2=(owS 2 d (u+1),d.1.getD 2 0,true):=by kernel_rfl
theorem Zff (d:Ln) (u v:Int):(owS 3 d u).load 0 3 2=(owS 3 d (u+1),d.1.getD 2 0,true):=by kernel_rfl
theorem QfX {st:Int} (h:st=2∨st=3) (d:Ln) (u v:Int):(owS st d u).load 0 3 2=(owS st d (u+1),d.1.getD 2 0,true):=by
 rcases h with rfl|rfl
 ·exact JeU d u v
 ·exact Zff d u v
theorem JgO (d:Ln) (u v:Int):((owS 2 d u).up 0).1=owS 2 d u:=by kernel_rfl
theorem QgL (d:Ln) (u v:Int):((owS 3 d u).up 0).1=owS 3 d u:=by kernel_rfl
theorem Zhc {st:Int} (h:st=2∨st=3) (d:Ln) (u v:Int):((owS st d u).up 0).1=owS st d u:=by
 rcases h with rfl|rfl
 ·exact JgO d u v
 ·exact QgL d u v
theorem QfU (d:Ln) (u v:Int):(owS 2 d u).hear 0=(owS 2 d u,Jl,14):=by kernel_rfl
theorem Qfu (d:Ln) (u v:Int):(owS 3 d u).hear 0=(owS 3 d u,Jl,14):=by kernel_rfl
theorem Zfm {st:Int} (h:st=2∨st=3) (d:Ln) (u v:Int):(owS st d u).hear 0=(owS st d u,Jl,14):=by
 rcases h with rfl|rfl
 ·exact QfU d u v
 ·exact Qfu d u v
theorem Qhv (st:Int) (d:Ln) (u:Int):(owS st d u).c=plainC:=by kernel_rfl
theorem XfZ {st:Int} (hst:st=2∨st=3) {k:Nat} (d:Ln) (u v:Int):(owS st d u).store 0 3 ((k%3:Nat):Int) v=(owS 3 (d.put (k%3) v) (u+1),true):=by
 have h:k%3=0∨k%3=1∨k%3=2:=by omega
 rcases h with h|h|h<;>rw [h]
 ·exact XfF hst d u v
 ·exact XfE hst d u v
 ·exact Zfz hst d u v
theorem Jgx {st:Int} (hst:st=2∨st=3) {k:Nat} (d:Ln) (u:Int):(owS st d u).load 0 3 ((k%3:Nat):Int)=(owS st d (u+1),d.1.getD (k%3) 0,true):=by
 have h:k%3=0∨k%3=1∨k%3=2:=by omega
 rcases h with h|h|h<;>rw [h]
 ·exact Jf6 hst d u 0
 ·exact Qgi hst d u 0
 ·exact QfX hst d u 0
section
variable (vals:List Int)
def ent (k:Nat):SE:=⟨9,3,((k%3:Nat):Int),vals.getD k 0+1,false⟩
def bq (s t:Nat):List SE:=((List.range t).drop s).map (ent vals)
theorem XdT (s t:Nat):(bq vals s t).length=t-s:=by unfold bq;rw [List.length_map,List.length_drop,List.length_range]
theorem JfA {s t:Nat} (h:s≤t):bq vals s (t+1)=bq vals s t++[ent vals t]:=by
 unfold bq
 rw [List.range_succ,List.drop_append_of_le_length (by rw [List.length_range];exact h),List.map_append];rfl
theorem XgI {s t:Nat} (h:s<t):bq vals s t=ent vals s::bq vals (s+1) t:=by
 unfold bq
 rw [Xbo (show (List.range t)[s]? =some s by rw [List.getElem?_range h]),List.map_cons]
end
structure OW (vals:List Int) (C:Cr) (S:Sys) (p s:Nat) (ts ss:List Int) (ph:Nat):Prop where
 id:C.id=0
 room:C.room=2
 us:C.us=codeF (owI vals)
 waits:C.waits=0
 rl:C.r.length=8
 r0:C.reg 0=0
 pl:p≤4*vals.length+1
 run:C.runs=decide (p≤4*vals.length)
 place:p≤4*vals.length→C.place=(p:Int)
 b:C.b=bq vals s ((p+2)/4)
 sl:s≤(p+2)/4∧(p+2)/4≤s+2
 ts:ts=(vals.take (p/4)).map (· +1)
 ss:ss=(vals.take s).map (· +1)
 r1:p<4*vals.length→p%4=1→C.reg 1=vals.getD (p/4) 0+1
 r2:p<4*vals.length→p%4=3→C.reg 2=vals.getD (p/4) 0+1
 sys:(s=0∧S=wS0∧ph=1)∨(ph=0∧ ∃st d u,(st=2∨st=3)∧S=owS st d u∧(0<s→d.1.getD ((s-1)%3) 0=vals.getD (s-1) 0+1))
def Z0 (l:List Evt):List Int:=(l.filter (fun e=>decide (e.kind=3))).map (·.val)
theorem Zgp {vals:List Int} (hv: ∀v∈vals,0≤v∧v≤255):Zgt (owI vals):=by
 intro i hi
 have g4: ∀(k:Nat) (v:Int),0≤v∧v≤255→ ∀i∈ow4 k v,(0≤i.op∧i.op≤22)∧Xz i=true:=by
  intro k v hv i hi
  simp only [ow4,List.mem_cons,List.not_mem_nil,or_false] at hi
  have him: ∀(op a:Int),(op=9∨op=8)→(a=1∨a=2)→Xz ⟨op,a,0,0,192+8*((k:Int)%3)⟩=true:=by
   intro op a ho ha
   have hk:(k:Int)%3=0∨(k:Int)%3=1∨(k:Int)%3=2:=by omega
   rcases hk with e|e|e<;>rw [e]<;>rcases ho with rfl|rfl<;>rcases ha with rfl|rfl<;>decide
  rcases hi with rfl|rfl|rfl|rfl
  ·exact ⟨(show (0:Int)≤1∧(1:Int)≤22 by decide),Zgk (by omega)⟩
  ·exact ⟨(show (0:Int)≤9∧(9:Int)≤22 by decide),him 9 1 (.inl rfl) (.inl rfl)⟩
  ·exact ⟨(show (0:Int)≤8∧(8:Int)≤22 by decide),him 8 2 (.inr rfl) (.inr rfl)⟩
  ·exact ⟨(show (0:Int)≤21∧(21:Int)≤22 by decide),by decide⟩
 have gf: ∀(vs:List Int) (k:Nat),(∀v∈vs,0≤v∧v≤255)→ ∀i∈XaO k vs,(0≤i.op∧i.op≤22)∧Xz i=true:=by
  intro vs
  induction vs with
  | nil=>intro k _ i hi;cases hi
  | cons v r ih=>
   intro k hv i hi
   rcases List.mem_append.1 (show i∈ow4 k v++XaO (k+1) r from hi) with h|h
   ·exact g4 k v (hv v (List.mem_cons_self ..)) i h
   ·exact ih (k+1) (fun x hx=>hv x (List.mem_cons_of_mem _ hx)) i h
 rcases List.mem_append.1 (show i∈XaO 0 vals++[⟨22,0,0,0,0⟩] from hi) with h|h
 ·exact gf vals 0 hv i h
 ·rcases List.mem_singleton.1 h with rfl
  exact ⟨by decide,by decide⟩
end Go.Proofs.YtkdfaijmjmnhjaaGreat.Gen
namespace Go.Proofs.YtkdfaijmjmnhjaaGreat.Gen
open Go Go.Proofs.YtkdfaijmjmnhjaaGreat.Abs Go.RowKit
theorem Zhk (C:Cr) (S:Sys) (a imm:Int):C.doX S ⟨1,a,0,0,imm⟩=((C.setR a (IntKind.u64.wrap imm)).next,S,[]):=rfl
theorem Jhe (C:Cr) (S:Sys) (a imm:Int):C.doX S ⟨8,a,0,0,imm⟩=C.loadX S ⟨8,a,0,0,imm⟩:=rfl
theorem Xhg (C:Cr) (S:Sys) (a imm:Int):C.doX S ⟨9,a,0,0,imm⟩=C.putX S ⟨9,a,0,0,imm⟩:=rfl
theorem XgB (C:Cr) (S:Sys) (a:Int):C.doX S ⟨21,a,0,0,0⟩=(C.next,S,[C.ev 8 0 0 (C.reg a)]):=rfl
theorem QgA (C:Cr) (S:Sys):C.doX S ⟨22,0,0,0,0⟩=({ C with runs:=false },S,[C.ev 9 0 0 0]):=rfl
theorem Qg0 {C:Cr} (h0:C.reg 0=0) (k:Nat) (op a:Int):C.at 6 ⟨op,a,0,0,192+8*((k:Int)%3)⟩=some (3,((k%3:Nat):Int)):=by
 unfold Cr.at
 rw [show (⟨op,a,0,0,192+8*((k:Int)%3)⟩:Ins).b=0 from rfl,h0]
 have h:k%3=0∨k%3=1∨k%3=2:=by omega
 rcases h with h|h|h
 ·rw [show (k:Int)%3=0 by omega,h];show addrOf 6 (JgQ 0 (192+8*0))=some (3,0);decide
 ·rw [show (k:Int)%3=1 by omega,h];show addrOf 6 (JgQ 0 (192+8*1))=some (3,1);decide
 ·rw [show (k:Int)%3=2 by omega,h];show addrOf 6 (JgQ 0 (192+8*2))=some (3,2);decide
theorem QdI {C:Cr} (hl:C.r.length=8) {a b:Int} (ha:0≤a∧a<8) (hb:0≤b) (v:Int):(C.setR a v).reg b=if b=a then v else C.reg b:=by
 unfold Cr.setR Cr.reg
 show (C.r.set a.toNat v)[b.toNat]?.getD 0=_
 by_cases h:b=a
 ·subst h
  rw [if_pos rfl,List.getElem?_set_self (by omega)];rfl
 ·rw [if_neg h,List.getElem?_set_ne (by omega)]
theorem Zep {b:List SE} {e:SE} {l w:Int} (h:Qeu l w e=true):Xbz (b++[e]) l w=some e.val:=by
 unfold Xbz
 rw [List.reverse_append,List.reverse_singleton,List.singleton_append,List.find?_cons_of_pos h];rfl
section
variable {vals:List Int} {C:Cr} {S:Sys} {p s ph:Nat} {ts ss:List Int}
theorem OW.lines (h:OW vals C S p s ts ss ph):S.c.lines=6:=by
 rcases h.sys with ⟨_,rfl,_⟩|⟨_,st,d,u,_,rfl,_⟩
 ·rfl
 ·rw [Qhv];rfl
theorem XeM {i:Nat} (hi:i<vals.length):(vals.take (i+1)).map (· +1)=(vals.take i).map (· +1)++[vals.getD i 0+1]:=by
 have hg:vals[i]? =some (vals.getD i 0):=by rw [List.getD_eq_getElem?_getD,List.getElem?_eq_getElem hi];rfl
 rw [take_add hg,List.map_append];rfl
theorem OW.exec (hv: ∀v∈vals,0≤v∧v≤255) (h:OW vals C S p s ts ss ph):
  ∃p',OW vals (C.exec S).1 (C.exec S).2.1 p' s (ts++Qaw (C.exec S).2.2) (ss++Z0 (C.exec S).2.2) ph∧(p'=p+1∨p'=p∧(p=4*vals.length+1∨s+2=(p+2)/4)):=by
 rw [ZgZ h.us (Zgp hv)]
 unfold Cr.execI
 have hpl:=h.pl
 have hsl:=h.sl
 by_cases h1:p=4*vals.length+1
 ·rw [if_pos (by rw [h.run];exact decide_eq_false (by omega))]
  refine ⟨p,?_,.inr ⟨rfl,.inl h1⟩⟩
  show OW vals C S p s (ts++[]) (ss++[]) ph
  rw [List.append_nil,List.append_nil];exact h
 have hp:=h.place (by omega)
 rw [if_neg (by rw [h.run,decide_eq_true (by omega)];exact Bool.noConfusion),hp,Int.toNat_natCast]
 by_cases h2:p=4*vals.length
 ·subst h2
  rw [Xgv]
  show ∃p',OW vals (C.doX S ⟨22,0,0,0,0⟩).1 (C.doX S ⟨22,0,0,0,0⟩).2.1 p' s (ts++Qaw (C.doX S ⟨22,0,0,0,0⟩).2.2) (ss++Z0 (C.doX S ⟨22,0,0,0,0⟩).2.2) ph∧_
  rw [QgA]
  refine ⟨4*vals.length+1,?_,.inl rfl⟩
  show OW vals { C with runs:=false } S (4*vals.length+1) s (ts++[]) (ss++[]) ph
  rw [List.append_nil,List.append_nil]
  exact { id:=h.id,room:=h.room,us:=h.us,waits:=h.waits,rl:=h.rl,r0:=h.r0,pl:=by omega,run:=(decide_eq_false (by omega)).symm,place:=fun h=>by omega,b:=by show C.b=_;rw [h.b];congr 1;omega,sl:=by omega,ts:=by rw [h.ts];congr 2;omega,ss:=h.ss,r1:=fun h=>by omega,r2:=fun h=>by omega,sys:=h.sys }
 have hlt:p<4*vals.length:=by omega
 have hi:p/4<vals.length:=by omega
 rw [ZgO hlt]
 have hvi:0≤vals.getD (p/4) 0∧vals.getD (p/4) 0≤255:=by
  refine hv _ ?_
  rw [List.getD_eq_getElem?_getD,List.getElem?_eq_getElem hi]
  exact List.getElem_mem hi
 have hm:p%4=0∨p%4=1∨p%4=2∨p%4=3:=by omega
 generalize hV:vals.getD (p/4) 0=V at*
 rcases hm with m|m|m|m<;>rw [m]
 ·show ∃p',OW vals (C.doX S ⟨1,1,0,0,V+1⟩).1 (C.doX S ⟨1,1,0,0,V+1⟩).2.1 p' s (ts++Qaw (C.doX S ⟨1,1,0,0,V+1⟩).2.2) (ss++Z0 (C.doX S ⟨1,1,0,0,V+1⟩).2.2) ph∧_
  rw [Zhk,Jdf (by omega) (by omega)]
  refine ⟨p+1,?_,.inl rfl⟩
  show OW vals (C.setR 1 (V+1)).next S (p+1) s (ts++[]) (ss++[]) ph
  rw [List.append_nil,List.append_nil]
  exact { id:=h.id,room:=h.room,us:=h.us,waits:=h.waits,rl:=by show (C.r.set _ _).length=8;rw [List.length_set];exact h.rl,r0:=by show (C.setR 1 (V+1)).reg 0=0;rw [QdI h.rl (by decide) (by decide),if_neg (by decide)];exact h.r0,pl:=by omega,run:=by show C.runs=_;rw [h.run,decide_eq_true (by omega),decide_eq_true (by omega)],place:=fun _=>by show C.place+1=_;rw [hp];omega,b:=by show C.b=_;rw [h.b];congr 1;omega,sl:=by omega,ts:=by rw [h.ts];congr 2;omega,ss:=h.ss,r1:=fun _ _=>by show (C.setR 1 (V+1)).reg 1=_;rw [QdI h.rl (by decide) (by decide),if_pos rfl,show (p+1)/4=p/4 by omega,hV],r2:=fun _ h=>by omega,sys:=h.sys }
 ·show ∃p',OW vals (C.doX S ⟨9,1,0,0,192+8*(((p/4:Nat):Int)%3)⟩).1 (C.doX S ⟨9,1,0,0,192+8*(((p/4:Nat):Int)%3)⟩).2.1 p' s (ts++Qaw (C.doX S ⟨9,1,0,0,192+8*(((p/4:Nat):Int)%3)⟩).2.2) (ss++Z0 (C.doX S ⟨9,1,0,0,192+8*(((p/4:Nat):Int)%3)⟩).2.2) ph∧_
  rw [Xhg]
  unfold Cr.putX
  rw [h.lines,Qg0 h.r0]
  have hbl:C.b.length=p/4-s:=by rw [h.b,XdT];omega
  by_cases hfull:C.room≤C.b.length
  ·simp only [if_pos hfull]
   refine ⟨p,?_,.inr ⟨rfl,.inr ?_⟩⟩
   ·show OW vals C S p s (ts++[]) (ss++[]) ph
    rw [List.append_nil,List.append_nil];exact h
   ·rw [h.room,hbl] at hfull;omega
  ·simp only [if_neg hfull]
   rw [h.room,hbl] at hfull
   refine ⟨p+1,?_,.inl rfl⟩
   have he:C.entry ⟨9,1,0,0,192+8*(((p/4:Nat):Int)%3)⟩ 3 ((p/4%3:Nat):Int)=ent vals (p/4):=by
    show (⟨9,3,((p/4%3:Nat):Int),C.reg 1,false⟩:SE)=ent vals (p/4)
    rw [h.r1 hlt m,hV];unfold ent;rw [hV]
   rw [he]
   show OW vals { C with b:=C.b++[ent vals (p/4)] }.next S (p+1) s (ts++[]) (ss++[]) ph
   rw [List.append_nil,List.append_nil]
   exact { id:=h.id,room:=h.room,us:=h.us,waits:=h.waits,rl:=h.rl,r0:=h.r0,pl:=by omega,run:=by show C.runs=_;rw [h.run,decide_eq_true (by omega),decide_eq_true (by omega)],place:=fun _=>by show C.place+1=_;rw [hp];omega,b:=by show C.b++[ent vals (p/4)]=_;rw [h.b,show (p+2)/4=p/4 by omega,show (p+1+2)/4=p/4+1 by omega,JfA vals (by omega)],sl:=by omega,ts:=by rw [h.ts];congr 2;omega,ss:=h.ss,r1:=fun _ h=>by omega,r2:=fun _ h=>by omega,sys:=h.sys }
 ·show ∃p',OW vals (C.doX S ⟨8,2,0,0,192+8*(((p/4:Nat):Int)%3)⟩).1 (C.doX S ⟨8,2,0,0,192+8*(((p/4:Nat):Int)%3)⟩).2.1 p' s (ts++Qaw (C.doX S ⟨8,2,0,0,192+8*(((p/4:Nat):Int)%3)⟩).2.2) (ss++Z0 (C.doX S ⟨8,2,0,0,192+8*(((p/4:Nat):Int)%3)⟩).2.2) ph∧_
  rw [Jhe]
  unfold Cr.loadX
  rw [h.lines,Qg0 h.r0]
  have fin: ∀S',((s=0∧S'=wS0∧ph=1)∨(ph=0∧ ∃st d u,(st=2∨st=3)∧S'=owS st d u∧(0<s→d.1.getD ((s-1)%3) 0=vals.getD (s-1) 0+1)))→OW vals (C.setR 2 (V+1)).next S' (p+1) s ts ss ph:=fun S' hS=>by
   exact { id:=h.id,room:=h.room,us:=h.us,waits:=h.waits,rl:=by show (C.r.set _ _).length=8;rw [List.length_set];exact h.rl,r0:=by show (C.setR 2 (V+1)).reg 0=0;rw [QdI h.rl (by decide) (by decide),if_neg (by decide)];exact h.r0,pl:=by omega,run:=by show C.runs=_;rw [h.run,decide_eq_true (by omega),decide_eq_true (by omega)],place:=fun _=>by show C.place+1=_;rw [hp];omega,b:=by show C.b=_;rw [h.b];congr 1;omega,sl:=by omega,ts:=by rw [h.ts];congr 2;omega,ss:=h.ss,r1:=fun _ h=>by omega,r2:=fun _ _=>by show (C.setR 2 (V+1)).reg 2=_;rw [QdI h.rl (by decide) (by decide),if_pos rfl,show (p+1)/4=p/4 by omega,hV],sys:=hS }
  by_cases hs:s≤p/4
  ·have hf:Xbz C.b 3 ((p/4%3:Nat):Int)=some (V+1):=by
    rw [h.b,show (p+2)/4=p/4+1 by omega,JfA vals hs,Zep (by unfold Qeu ent;exact decide_eq_true ⟨rfl,rfl,rfl⟩)]
    unfold ent;rw [hV]
   simp only [hf]
   refine ⟨p+1,?_,.inl rfl⟩
   show OW vals (C.setR 2 (V+1)).next S (p+1) s (ts++[]) (ss++[]) ph
   rw [List.append_nil,List.append_nil]
   exact fin S h.sys
  ·have hse:s=p/4+1:=by omega
   have hb:C.b=[]:=by rw [h.b];exact List.eq_nil_of_length_eq_zero (by rw [XdT];omega)
   have hf:Xbz C.b 3 ((p/4%3:Nat):Int)=none:=by rw [hb];rfl
   simp only [hf]
   rcases h.sys with ⟨h0,_⟩|⟨hph,st,d,u,hst,rfl,hd⟩
   ·omega
   ·rw [h.id,Jgx hst d u]
    have hd':=hd (by omega)
    rw [show s-1=p/4 by omega,hV] at hd'
    simp only [if_true,hd']
    refine ⟨p+1,?_,.inl rfl⟩
    show OW vals (C.setR 2 (V+1)).next _ (p+1) s (ts++[]) (ss++[]) ph
    rw [List.append_nil,List.append_nil]
    refine fin _ (.inr ⟨hph,st,d,u+1,hst,rfl,hd⟩)
 ·show ∃p',OW vals (C.doX S ⟨21,2,0,0,0⟩).1 (C.doX S ⟨21,2,0,0,0⟩).2.1 p' s (ts++Qaw (C.doX S ⟨21,2,0,0,0⟩).2.2) (ss++Z0 (C.doX S ⟨21,2,0,0,0⟩).2.2) ph∧_
  rw [XgB]
  refine ⟨p+1,?_,.inl rfl⟩
  show OW vals C.next S (p+1) s (ts++[C.reg 2]) (ss++[]) ph
  rw [List.append_nil]
  exact { id:=h.id,room:=h.room,us:=h.us,waits:=h.waits,rl:=h.rl,r0:=h.r0,pl:=by omega,run:=by show C.runs=_;rw [h.run,decide_eq_true (by omega),decide_eq_true (by omega)],place:=fun _=>by show C.place+1=_;rw [hp];omega,b:=by show C.b=_;rw [h.b];congr 1;omega,sl:=by omega,ts:=by rw [h.ts,h.r2 hlt m,show (p+1)/4=p/4+1 by omega,XeM hi],ss:=h.ss,r1:=fun _ h=>by omega,r2:=fun _ h=>by omega,sys:=h.sys }
theorem OW.calm (h:OW vals C S p s ts ss ph):OW vals C ((S.up 0).1.hear 0).1 p s ts ss ph:=by
 have e:((S.up 0).1.hear 0).1=S:=by
  rcases h.sys with ⟨_,rfl,_⟩|⟨_,st,d,u,hst,rfl,_⟩
  ·rw [Zgu,Xfx]
  ·rw [Zhc hst d u 0,Zfm hst d u 0]
 rw [e];exact h
theorem OW.drain (h:OW vals C S p s ts ss ph):
  ∃s' ph',OW vals (C.drain S).1 (((C.drain S).2.1.up 0).1.hear 0).1 p s' (ts++Qaw (C.drain S).2.2) (ss++Z0 (C.drain S).2.2) ph'∧(s'=s+1∧ph'=ph∧s'≤(p+2)/4∨s'=s∧ph'+1=ph∨s'=s∧ph'=ph∧s=(p+2)/4):=by
 have hsl:=h.sl
 have hpl:=h.pl
 by_cases hst:s=(p+2)/4
 ·have hb:C.b=[]:=by rw [h.b];exact List.eq_nil_of_length_eq_zero (by rw [XdT];omega)
  have e:C.drain S=(C,S,[]):=by unfold Cr.drain;rw [hb]
  rw [e]
  refine ⟨s,ph,?_,.inr (.inr ⟨rfl,rfl,hst⟩)⟩
  show OW vals C ((S.up 0).1.hear 0).1 p s (ts++[]) (ss++[]) ph
  rw [List.append_nil,List.append_nil];exact h.calm
 ·have hb:C.b=ent vals s::bq vals (s+1) ((p+2)/4):=by rw [h.b,XgI vals (by omega)]
  have e:C.drain S=(if (S.store 0 3 ((s%3:Nat):Int) (vals.getD s 0+1)).2 then (C.pop,(S.store 0 3 ((s%3:Nat):Int) (vals.getD s 0+1)).1,[C.ev 3 3 ((s%3:Nat):Int) (vals.getD s 0+1)]) else (C,(S.store 0 3 ((s%3:Nat):Int) (vals.getD s 0+1)).1,[])):=by
   unfold Cr.drain
   rw [hb]
   have hid:=h.id
   show (if (S.store C.id 3 ((s%3:Nat):Int) (vals.getD s 0+1)).2 then (C.pop,(S.store C.id 3 ((s%3:Nat):Int) (vals.getD s 0+1)).1,[C.ev 3 3 ((s%3:Nat):Int) (vals.getD s 0+1)]) else (C,(S.store C.id 3 ((s%3:Nat):Int) (vals.getD s 0+1)).1,[]))=_
   rw [hid]
  rw [e]
  rcases h.sys with ⟨h0,rfl,hph⟩|⟨hph,st,d,u,hst',rfl,hd⟩
  ·subst h0
   rw [show ((0%3:Nat):Int)=0 from rfl,if_neg (by rw [ZgJ];exact Bool.noConfusion)]
   refine ⟨0,0,?_,.inr (.inl ⟨rfl,by omega⟩)⟩
   show OW vals C (((wS0.store 0 3 0 _).1.up 0).1.hear 0).1 p 0 (ts++[]) (ss++[]) 0
   rw [List.append_nil,List.append_nil,Qhb]
   exact { id:=h.id,room:=h.room,us:=h.us,waits:=h.waits,rl:=h.rl,r0:=h.r0,pl:=h.pl,run:=h.run,place:=h.place,b:=h.b,sl:=h.sl,ts:=h.ts,ss:=h.ss,r1:=h.r1,r2:=h.r2,sys:= .inr ⟨rfl,2,zeroL,2,.inl rfl,rfl,fun h=>absurd h (by decide)⟩ }
  ·rw [XfZ hst' d u,if_pos rfl]
   refine ⟨s+1,ph,?_,.inl ⟨rfl,rfl,by omega⟩⟩
   show OW vals C.pop (((owS 3 (d.put (s%3) (vals.getD s 0+1)) (u+1)).up 0).1.hear 0).1 p (s+1) (ts++[]) (ss++[vals.getD s 0+1]) ph
   rw [List.append_nil,Zhc (.inr rfl) _ _ 0,Zfm (.inr rfl) _ _ 0]
   exact { id:=h.id,room:=h.room,us:=h.us,waits:=h.waits,rl:=h.rl,r0:=h.r0,pl:=h.pl,run:=h.run,place:=h.place,b:=by show C.b.tail=_;rw [hb];rfl,sl:=by omega,ts:=h.ts,ss:=by rw [h.ss,XeM (by omega)],r1:=h.r1,r2:=h.r2,sys:= .inr ⟨hph,3,_,u+1,.inr rfl,rfl,fun _=>by show (d.1.set (s%3) (vals.getD s 0+1)).getD (s%3) 0=_;rw [List.getD_eq_getElem?_getD,List.getElem?_set_self (by rw [d.2];omega)];rfl⟩ }
theorem OW.done (h:OW vals C S p s ts ss ph) (hr:C.runs=false) (hb:C.b=[]):ts=vals.map (· +1)∧ss=vals.map (· +1):=by
 have hpl:=h.pl
 have hsl:=h.sl
 have hp:p=4*vals.length+1:=by
  have:=h.run
  rw [hr] at this
  have:=of_decide_eq_false this.symm
  omega
 have hbl:=XdT vals s ((p+2)/4)
 rw [←h.b,hb] at hbl
 have hl:0=(p+2)/4-s:=hbl
 rw [h.ts,h.ss,List.take_of_length_le (show vals.length≤p/4 by omega),List.take_of_length_le (show vals.length≤s by omega)]
 exact ⟨rfl,rfl⟩
theorem OW.start (hv: ∀v∈vals,0≤v∧v≤255):OW vals (JbI 0 2 (codeF (owI vals))) wS0 0 0 [] [] 1:=
 { id:=rfl,room:=rfl,us:=rfl,waits:=rfl,rl:=rfl,r0:=rfl,pl:=by omega,run:=rfl,place:=fun _=>rfl,b:=rfl,sl:=by omega,ts:=rfl,ss:=rfl,r1:=fun _ h=>by omega,r2:=fun _ h=>by omega,sys:= .inl ⟨rfl,rfl,rfl⟩ }
end
end Go.Proofs.YtkdfaijmjmnhjaaGreat.Gen
namespace Go.Proofs.YtkdfaijmjmnhjaaGreat.Gen
open Go Go.Proofs.YtkdfaijmjmnhjaaGreat.Abs Go.RowKit
variable {g:G} {n:Nat}
def Qel (i:Int):List Value:=[.int .u8 i]
theorem Xcn (i:Int):(Qel i).length=1:=rfl
section
variable {α:Type} {enc:α→List Value} {z:Nat} {F F':G} {N N':List Nat} {o:Col Cl} {g':G} {v:Value} {xs:List α}
theorem OutH.at (h:OutH enc z F N o g v xs) {l:Nat} (hl:J2 v=some l):F l=none∧o l=none∧l∉N∧ ∃b,g l=some b:=by
 rcases h with ⟨rfl,rfl⟩|⟨l',off,cs,rfl,ho,hf,hn,hg,_⟩
 ·cases hl
 ·cases hl;exact ⟨hf,ho,hn,_,hg⟩
theorem OutH.reF (h:OutH enc z F N o g v xs) (k: ∀l,J2 v=some l→F' l=none):OutH enc z F' N o g v xs:=by
 rcases h with h|⟨l',off,cs,rfl,ho,hf,hn,hg,h⟩
 ·exact .inl h
 ·exact .inr ⟨l',off,cs,rfl,ho,k _ rfl,hn,hg,h⟩
theorem OutH.reN (h:OutH enc z F N o g v xs) (k: ∀l,J2 v=some l→l∉N'):OutH enc z F N' o g v xs:=by
 rcases h with h|⟨l',off,cs,rfl,ho,hf,hn,hg,h⟩
 ·exact .inl h
 ·exact .inr ⟨l',off,cs,rfl,ho,hf,k _ rfl,hg,h⟩
theorem OutH.keepB (h:OutH enc z F N o g v xs) (k: ∀l b,J2 v=some l→g l=some b→g' l=some b):OutH enc z F N o g' v xs:=by
 rcases h with h|⟨l',off,cs,rfl,ho,hf,hn,hg,h⟩
 ·exact .inl h
 ·exact .inr ⟨l',off,cs,rfl,ho,hf,hn,k _ _ rfl hg,h⟩
theorem JgK {g0:G} (h:OwnS enc z g0 g v xs) (k: ∀l b,g0 l=none→g l=some b→g' l=some b):Sl enc z g' v xs:=by
 rcases h with ⟨a,b,w,rfl,hw⟩|⟨lc,c,bk,rfl,hg,h0,hl,hc⟩
 ·have hx:xs=[]:=List.eq_nil_of_length_eq_zero a
  subst hx
  refine ⟨w,0,rfl,by simp,hw,fun h=>absurd h (by simp)⟩
 ·have:OwnS enc z g0 g' (.slice (some ⟨lc,0,none⟩) xs.length c) xs:= .inr ⟨lc,c,bk,rfl,k _ _ h0 hg,h0,hl,hc⟩
  exact this.sl
end
def JeW (v1 v2:Value) (g:G):G:=fun l=>if J2 v1=some l∨J2 v2=some l then none else g l
theorem Xgf (v1 v2:Value) (g:G):Sub (JeW v1 v2 g) g:=fun l=>by
 unfold JeW
 split
 ·exact .inl rfl
 ·exact .inr rfl
theorem Jem {v1 v2:Value} {g:G} {l:Nat} (h1:J2 v1≠some l) (h2:J2 v2≠some l):JeW v1 v2 g l=g l:=by
 unfold JeW
 rw [if_neg (fun h=>h.elim h1 h2)]
section
variable {F F':G} {o o':Col Cl} {g':G} {ls:Nat} {W W':XaS} {w:CW} {S S':Sys} {C C':Cr} {K:Cont} {k k':Nat} {vt vs:Value} {ts ss:List Int}
theorem BS.execF (h:BS o g ls W w S C k) (hk:k+3<100000) (hK: ∀x o' g' n' W',BS o' g' ls W' w (C.exec S).2.1 (C.exec S).1 (k+3)→Sub (un w o g) (un w o' g')→OutH JaM 5 (un w o g) w.L o' g' x (C.exec S).2.2→K x g' n'):AC Qo [ptr w.lc 0,ptr ls 0] g n K:=
 Zda h.sys h.co h.ok hk fun x o' g' n' W' h1 h2 h3 h4=>hK _ _ _ _ _ ⟨h1,h2,h.ok.exec hk⟩ h3 h4
theorem BS.drainF (h:BS o g ls W w S C k) (hk:k<100000) (hK: ∀x o' g' n' W',BS o' g' ls W' w (C.drain S).2.1 (C.drain S).1 (k+1)→Sub (un w o g) (un w o' g')→OutH JaM 5 (un w o g) w.L o' g' x (C.drain S).2.2→K x g' n'):AC Jo [ptr w.lc 0,ptr ls 0] g n K:=
 ZcE h.sys h.co h.ok hk fun x o' g' n' W' h1 h2 h3 h4=>hK _ _ _ _ _ ⟨h1,h2,h.ok.drain hk⟩ h3 h4
theorem BS.memS (h:BS o g ls W w S C k) {l:Nat} (hl:l∈w.L): ∃b,g l=some b:=by
 obtain ⟨ds,e1,e2⟩:=h.co.hp
 obtain ⟨L,f,hr⟩:=id h.co.hb
 rcases CW.ofL hl with rfl|rfl|rfl
 ·exact ⟨_,h.co.hc⟩
 ·exact ⟨_,e2⟩
 ·exact ⟨_,hr.hb⟩
theorem BS.keep (h:BS o g ls W w S C k) (kk: ∀l b,g l=some b→(w.mem l∨o l≠none)→g' l=some b):BS o g' ls W w S C k:=by
 refine ⟨h.sys.same (fun l c e=> ?_),h.co.keep (fun l b hm ho' hg=>⟨ho',kk l b hg (.inl hm)⟩),h.ok⟩
 obtain ⟨b,hb⟩:=h.sys.live l c e
 rw [hb];exact kk l b hb (.inr (by rw [e];exact fun h=>nomatch h))
structure XS (F:G) (o:Col Cl) (g:G) (ls:Nat) (W:XaS) (w:CW) (S:Sys) (C:Cr) (k:Nat) (vt vs:Value) (ts ss:List Int):Prop where
 b:BS o g ls W w S C k
 f:Sub F (un w o g)
 t:OutH Xdi 1 F w.L o g vt ts
 s:OutH Xdi 1 F w.L o g vs ss
 d: ∀l,J2 vt=some l→J2 vs≠some l
theorem XS.step (h:XS F o g ls W w S C k vt vs ts ss) (b':BS o' g' ls W' w S' C' k') (u:Sub (un w o g) (un w o' g')):XS F o' g' ls W' w S' C' k' vt vs ts ss:=
 ⟨b',h.f.trans u,h.t.unw u,h.s.unw u,h.d⟩
theorem XS.unT (h:XS F o g ls W w S C k vt vs ts ss) {l:Nat} (hl:J2 vt=some l): ∃b,un w o g l=some b:=by
 obtain ⟨_,ho,hn,b,hb⟩:=h.t.at hl
 exact ⟨b,by rw [Jc7 (fun h=>hn (CW.memL h)) ho];exact hb⟩
theorem XS.unS (h:XS F o g ls W w S C k vt vs ts ss) {l:Nat} (hl:J2 vs=some l): ∃b,un w o g l=some b:=by
 obtain ⟨_,ho,hn,b,hb⟩:=h.s.at hl
 exact ⟨b,by rw [Jc7 (fun h=>hn (CW.memL h)) ho];exact hb⟩
theorem XS.keep (h:XS F o g ls W w S C k vt vs ts ss) (kk: ∀l b,g l=some b→(w.mem l∨o l≠none∨F l≠none)→g' l=some b):BS o g' ls W w S C k∧Sub F (un w o g'):=by
 refine ⟨h.b.keep (fun l b hb hl=>kk l b hb (hl.elim .inl (fun h=> .inr (.inl h)))),fun l=> ?_⟩
 cases hF:F l with
 | none=>exact .inl rfl
 | some c=>
  right
  have e:=h.f.live hF
  obtain ⟨hm,ho,hg⟩:=Zbn e
  rw [Jc7 hm ho,kk l c hg (.inr (.inr (by rw [hF];exact fun h=>nomatch h)))]
theorem XS.appT (h:XS F o g ls W w S C k vt vs ts ss) {x:Value} {ys:List Int} (hx:Sl Xdi 1 g x ys) (hl:ts.length+ys.length<1000000) (hK: ∀v' g' n',XS F o g' ls W w S C k v' vs (ts++ys) ss→K v' g' n'):Zt vt x 1 8 g n K:=by
 have hN:OutH Xdi 1 F ((J2 vs).toList++w.L) o g vt ts:=h.t.reN (fun l hl hm=>by
  rcases List.mem_append.1 hm with hm|hm
  ·exact h.d l hl (Option.mem_toList.1 hm)
  ·exact (h.t.at hl).2.2.1 hm)
 refine hN.append QaQ h.b.sys.live ?_ (fun l b hF=> ?_) hx Qd9 (by decide) (by omega) (by omega) (fun v' g2 n2 k1 k2 ho=> ?_)
 ·intro l hl
  rcases List.mem_append.1 hl with hm|hm
  ·exact (h.s.at (Option.mem_toList.1 hm)).2.2.2
  ·exact h.b.memS hm
 ·exact ⟨b,(Zbn (h.f.live hF)).2.2⟩
 ·obtain ⟨b',f'⟩:=h.keep (g':=g2) (fun l b hb hl=>by
   rw [←hb]
   exact k1 l (by
    rcases hl with hl|hl|hl
    ·exact .inl (List.mem_append_right _ (CW.memL hl))
    ·exact .inr (.inr hl)
    ·exact .inr (.inl hl)))
  refine hK _ _ _ ⟨b',f',ho.reN (fun l hl hm=>(ho.at hl).2.2.1 (List.mem_append_right _ hm)),h.s.keepB (fun l b hl hb=> ?_),fun l h1 h2=>(ho.at h1).2.2.1 (List.mem_append_left _ (Option.mem_toList.2 h2))⟩
  rw [←hb];exact k1 l (.inl (List.mem_append_left _ (Option.mem_toList.2 hl)))
theorem XS.flip (h:XS F o g ls W w S C k vt vs ts ss):XS F o g ls W w S C k vs vt ss ts:=⟨h.b,h.f,h.s,h.t,fun l h1 h2=>h.d l h2 h1⟩
theorem XS.appS (h:XS F o g ls W w S C k vt vs ts ss) {x:Value} {ys:List Int} (hx:Sl Xdi 1 g x ys) (hl:ss.length+ys.length<1000000) (hK: ∀v' g' n',XS F o g' ls W w S C k vt v' ts (ss++ys)→K v' g' n'):Zt vs x 1 8 g n K:=
 h.flip.appT hx hl fun _ _ _ h'=>hK _ _ _ h'.flip
theorem XS.mono (h:XS F o g ls W w S C k vt vs ts ss) (s:Sub g g'):XS F o g' ls W w S C k vt vs ts ss:=
 h.step (h.b.mono s).1 (h.b.mono s).2
theorem XS.rebase (h:XS F o g ls W w S C k vt vs ts ss):XS (JeW vt vs (un w o g)) o g ls W w S C k vt vs ts ss:=
 ⟨h.b,Xgf _ _ _,h.t.reF (fun l hl=>by unfold JeW;rw [if_pos (.inl hl)]),h.s.reF (fun l hl=>by unfold JeW;rw [if_pos (.inr hl)]),h.d⟩
theorem XS.subF (h:XS F o g ls W w S C k vt vs ts ss):Sub F (JeW vt vs (un w o g)):=fun l=>by
 cases hF:F l with
 | none=>exact .inl rfl
 | some c=>
  right
  rw [Jem (fun e=>by rw [(h.t.at e).1] at hF;cases hF) (fun e=>by rw [(h.s.at e).1] at hF;cases hF)]
  exact (h.f.live hF).symm
theorem XS.back (h:XS F' o g ls W w S C k vt vs ts ss) (s:Sub F F'):XS F o g ls W w S C k vt vs ts ss:=
 ⟨h.b,s.trans h.f,h.t.reF (fun l hl=>s.none (h.t.at hl).1),h.s.reF (fun l hl=>s.none (h.s.at hl).1),h.d⟩
theorem XS.evs (h:XS F o g ls W w S C k vt vs ts ss) {v:Value} {evs:List Evt} (ho:OutH JaM 5 (un w o g) w.L o' g' v evs):Sl JaM 5 (JeW vt vs (un w o' g')) v evs:=by
 refine (ho.slun ZY (fun _ h=>CW.memL h)).keep (fun l b hb hl=> ?_)
 have hn:=(ho.at hl).1
 rw [Jem (fun e=>by obtain ⟨c,hc⟩:=h.unT e;rw [hc] at hn;cases hn) (fun e=>by obtain ⟨c,hc⟩:=h.unS e;rw [hc] at hn;cases hn)]
 exact hb
theorem XS.app2 (a:XS F o g ls W w S C k vt vs ts ss) {g0:G} {v x:Value} {evs ys:List Evt} (hs:Sub g0 g) (hown:OwnS JaM 5 g0 g v evs)
  (hg0: ∀l b,g l=some b→(w.mem l∨o l≠none∨J2 vt=some l∨J2 vs=some l∨F l≠none)→g0 l=some b) (hx:Sl JaM 5 g x ys) (hl:evs.length+ys.length<1000)
  (hK: ∀v' g' n',XS F o g' ls W w S C k vt vs ts ss→Sl JaM 5 (JeW vt vs (un w o g')) v' (evs++ys)→K v' g' n'):Zt v x 5 40 g n K:=by
 refine hown.append hs hx Xck (by decide) (by omega) (by omega) (fun v' g' n' k1 k2 _ _=> ?_)
 obtain ⟨b',f'⟩:=a.keep (g':=g') (fun l b hb hl=>k1.live (hg0 l b hb (by
  rcases hl with hl|hl|hl
  ·exact .inl hl
  ·exact .inr (.inl hl)
  ·exact .inr (.inr (.inr (.inr hl))))))
 refine hK _ _ _ ⟨b',f',a.t.keepB (fun l b hl hb=>k1.live (hg0 l b hb (.inr (.inr (.inl hl))))),a.s.keepB (fun l b hl hb=>k1.live (hg0 l b hb (.inr (.inr (.inr (.inl hl)))))),a.d⟩ ?_
 refine JgK k2 (fun l b h0 hb=> ?_)
 have hno: ∀b,g l=some b→(w.mem l∨o l≠none∨J2 vt=some l∨J2 vs=some l∨F l≠none)→False:=fun b hb hl=>by
  have:=hg0 l b hb hl
  rw [h0] at this;cases this
 rw [Jem (fun e=>by obtain ⟨c,hc⟩:=(a.t.at e).2.2.2;exact hno c hc (.inr (.inr (.inl e)))) (fun e=>by obtain ⟨c,hc⟩:=(a.s.at e).2.2.2;exact hno c hc (.inr (.inr (.inr (.inl e)))))]
 have hm: ¬w.mem l:=fun hm=>by obtain ⟨c,hc⟩:=a.b.memS (CW.memL hm);exact hno c hc (.inl hm)
 have ho:o l=none:=by
  cases e:o l with
  | none=>rfl
  | some c=>
   obtain ⟨b,hb⟩:=a.b.sys.live l c e
   exact (hno b hb (.inr (.inl (by rw [e];exact fun h=>nomatch h)))).elim
 rw [Jc7 hm ho];exact hb
theorem XS.own {g1 g3:G} {o1:Col Cl} {W1:XaS} {S1:Sys} {C1:Cr} {k1:Nat} (a1:XS F o1 g1 ls W1 w S1 C1 k1 vt vs ts ss) (a:XS F o g ls W w S C k vt vs ts ss) {v:Value} {evs:List Evt} (hown:OwnS JaM 5 g1 g3 v evs) (u:Sub (un w o1 g3) (un w o g)):
  ∃g0,Sub g0 g∧OwnS JaM 5 g0 g v evs∧ ∀l b,g l=some b→(w.mem l∨o l≠none∨J2 vt=some l∨J2 vs=some l∨F l≠none)→g0 l=some b:=by
 rcases hown with h|⟨lc,c,bk,rfl,hg,h0,hl,hc⟩
 ·exact ⟨g,Sub.refl _,.inl h,fun l b hb _=>hb⟩
 ·have ho1:o1 lc=none:=a1.b.sys.live.fresh h0
  have hm: ¬w.mem lc:=fun hm=>by obtain ⟨b,hb⟩:=a1.b.memS (CW.memL hm);rw [h0] at hb;cases hb
  obtain ⟨_,ho,hg'⟩:=Zbn (u.live (show un w o1 g3 lc=some _ by rw [Jc7 hm ho1];exact hg))
  refine ⟨fun l=>if l=lc then none else g l,fun l=> ?_,.inr ⟨lc,c,bk,rfl,hg',if_pos rfl,hl,hc⟩,fun l b hb hl=> ?_⟩
  ·by_cases e:l=lc
   ·exact .inl (if_pos e)
   ·exact .inr (if_neg e)
  ·show (if l=lc then none else g l)=some b
   rw [if_neg ?_]
   ·exact hb
   ·rintro rfl
    rcases hl with hl|hl|hl|hl|hl
    ·exact hm hl
    ·exact hl ho
    ·obtain ⟨_,_,_,b,hb⟩:=a1.t.at hl;rw [h0] at hb;cases hb
    ·obtain ⟨_,_,_,b,hb⟩:=a1.s.at hl;rw [h0] at hb;cases hb
    ·cases e:F l with
     | none=>exact hl e
     | some c=>
      have:=(Zbn (a1.f.live e)).2.2
      rw [h0] at this;cases this
end
end Go.Proofs.YtkdfaijmjmnhjaaGreat.Gen
namespace Go.Proofs.YtkdfaijmjmnhjaaGreat.Gen
open Go Go.Proofs.YtkdfaijmjmnhjaaGreat.Abs Go.RowKit
variable {g:G} {n:Nat}
theorem Jcy (a b:List Evt):Qaw (a++b)=Qaw a++Qaw b:=by unfold Qaw;rw [List.filter_append,List.map_append]
theorem Jb8 (a b:List Evt):Z0 (a++b)=Z0 a++Z0 b:=by unfold Z0;rw [List.filter_append,List.map_append]
theorem Zfd {C:Cr} (h:C.waits=0) (m:Ms):(C.hear m).1=C:=by
 unfold Cr.hear
 rw [if_neg (fun e=>e.2 h)]
section
variable {F:G} {o:Col Cl} {ls:Nat} {W:XaS} {w:CW} {S:Sys} {C:Cr} {K:Cont} {k:Nat} {vt vs:Value} {ts ss:List Int}
theorem Xcm {x1:Value} {evs:List Evt} {KK:Nat→Value→Value→Value→G→Nat→Prop} (a1:XS F o g ls W w S C k vt vs ts ss) (e1:Sl JaM 5 g x1 evs) (hl:evs.length≤2) (hk:k<100000)
  (hK: ∀l v3 x4 v5 o' g' n' W',XS F o' g' ls W' w (C.drain S).2.1 (C.drain S).1 (k+1) vt vs ts ss→Sl JaM 5 (JeW vt vs (un w o' g')) v5 (evs++(C.drain S).2.2)→KK l v3 x4 v5 g' n'):
  Xf (reps 0 [.int .i64 0,.int .i64 0,.int .i64 0,.int .i64 0,.int .u64 0]) [] fun c=>Zq c .exact g n fun l g2 n2=>Zt (.slice (some ⟨l,0,none⟩) 0 0) x1 5 40 g2 n2 fun v3 g3 n3=>AC Jo [ptr w.lc 0,ptr ls 0] g3 n3 fun x4 g4 n4=>Zt v3 x4 5 40 g4 n4 fun v5 g5 n5=>KK l v3 x4 v5 g5 n5:=by
 rw [Jp]
 intro hn
 have s2:=(Sub.refl g).new hn (some (.cells (reps 0 [.int .i64 0,.int .i64 0,.int .i64 0,.int .i64 0,.int .u64 0]) .exact))
 have e2:=e1.mono s2
 generalize upd g n (some (.cells (reps 0 [.int .i64 0,.int .i64 0,.int .i64 0,.int .i64 0,.int .u64 0]) .exact))=g2 at s2 e2
 refine (OwnS.empty (g0:=g) (enc:=JaM) (z:=5)).append s2 e2 Xck (by decide) (by rw [List.length_nil];omega) (by rw [List.length_nil];omega) (fun v3 g3 n3 k1 k2 _ _=> ?_)
 rw [List.nil_append] at k2
 obtain ⟨b3,u3⟩:=a1.b.mono k1
 have hdl:=Qc7 C S
 refine b3.drainF hk (fun x4 o4 g4 n4 W4 b4 u4 e4=> ?_)
 have a4:=a1.step b4 (u3.trans u4)
 obtain ⟨g0,hs,hown,hg0⟩:=a1.own a4 k2 u4
 refine a4.app2 hs hown hg0 ((e4.slun ZY (fun _ h=>CW.memL h)).mono (XbS _ _ _)) (by omega) (fun v5 g5 n5 a5 e5=> ?_)
 exact hK _ _ _ _ _ _ _ _ a5 e5
theorem Zgw {v1:Value} {vals:List Int} (t:Env) (h1:Sl Qel 1 g v1 vals) (ht:Sl Xdi 1 g vt (vals.map (· +1))) (hs:Sl Xdi 1 g vs (vals.map (· +1))) (hv: ∀v∈vals,0≤v∧v≤255) (hl:vals.length≤20)
  (q0:t 0=v1) (q11:t 11=vt) (q12:t 12=vs) (hK: ∀n' g',K (.bool true) g' n'):Qg AC K t g n:=by
 simp only [Qg]
 rw [q11,q12,q0]
 refine ht.len (h1.len (QbE (Xj (fun h=>absurd (by rw [List.length_map]) h) (fun _=> ?_))))
 refine hs.len (h1.len (QbE (Xj (fun h=>absurd (by rw [List.length_map]) h) (fun _=> ?_))))
 refine X8 (m:=vals.length) (Inv:=fun m t2 gg nn=> ∃j:Nat,m+j=vals.length∧gg=g∧t2 0=v1∧t2 11=vt∧t2 12=vs∧t2 18= .int .i64 (j:Nat)) ?_ ⟨0,by omega,rfl,q0,q11,q12,rfl⟩
 rintro I m t2 gg nn ih ⟨j,hm,rfl,r0,r11,r12,r18⟩
 simp only [Qav]
 rw [r0,r11,r12,r18]
 refine h1.len (QdN (Xj (fun hj=> ?_) (fun _=>Jcz (fun g' n'=>Ja (Sub.refl _) (hK _ _)))))
 have hj':j<vals.length:=by omega
 obtain ⟨x,hx⟩: ∃x,vals[j]? =some x:=⟨_,List.getElem?_eq_getElem hj'⟩
 have hx1:(vals.map (· +1))[j]? =some (x+1):=by rw [List.getElem?_map,hx];rfl
 have hxr:=hv x (List.mem_of_getElem? hx)
 refine ht.idx QaQ hx1 (fun l o ha=> ?_)
 rw [Zb]
 refine ha.ld (i:=0) rfl ?_
 refine h1.idx Xcn hx (fun l o ha=> ?_)
 rw [Zb]
 refine ha.ld (i:=0) rfl ?_
 rw [Zax,Jdf hxr.1 (by omega),Jh,Jdf (by omega) (by omega)]
 refine QbE (Xj (fun h=>absurd rfl h) (fun _=> ?_))
 refine hs.idx QaQ hx1 (fun l o ha=> ?_)
 rw [Zb]
 refine ha.ld (i:=0) rfl ?_
 refine h1.idx Xcn hx (fun l o ha=> ?_)
 rw [Zb]
 refine ha.ld (i:=0) rfl ?_
 rw [Zax,Jdf hxr.1 (by omega),Jh,Jdf (by omega) (by omega)]
 refine QbE (Xj (fun h=>absurd rfl h) (fun _=> ?_))
 rw [Jh,JaL (by omega)]
 exact ih (m-1) _ _ _ (by omega) ⟨j+1,by omega,rfl,r0,r11,r12,rfl⟩
end
set_option maxHeartbeats 2000000 in
set_option maxRecDepth 100000 in
theorem QdS {v1 v2:Value} {vals drs:List Int} {K:Cont} (h1:Sl Qel 1 g v1 vals) (h2:Sl Qel 1 g v2 drs) (hv: ∀v∈vals,0≤v∧v≤255) (hd: ∀d∈drs,0≤d∧d≤255) (hK: ∀n' g',K (.bool true) g' n'):
  AC Qe [v1,v2] g n K:=by
 refine ACalls.fold Xb ?_
 rw [←Qbp]
 simp only [Jam,Qac]
 have hw: ∀(g':G) (n':Nat),AC Jr [] g' n' fun v g6 n6=>Jc K v g6 n6:=fun g' n'=>Jcz (fun g' n'=>Ja (Sub.refl _) (hK _ _))
 refine Xdr (fun g1 n1 s1=> ?_)
 refine XdV plainC (img:=[]) Sl.nil (fun h=>absurd ⟨rfl,.inl rfl⟩ h) (fun _ _ ls o2 g2 n2 W2 s2 y2=> ?_)
 refine Jav rfl (Jav rfl (QbE (Zc rfl (QaY (Zc rfl ?_)))))
 refine h1.len (Jf5 (Xj (fun _=>Zae (Jd rfl (Jf8 (Jd rfl (hw _ _))))) (fun hl1=> ?_)))
 refine h2.len (Jf5 (Xj (fun _=>Zae (Jd rfl (Jf8 (Jd rfl (hw _ _))))) (fun hl2=> ?_)))
 have hN:vals.length≤20:=by omega
 have hD:drs.length≤60:=by omega
 have hu1:Sl Qel 1 (unc o2 g2) v1 vals:=(h1.mono s1).mono s2
 have hu2:Sl Qel 1 (unc o2 g2) v2 drs:=(h2.mono s1).mono s2
 refine X8 (m:=vals.length) (Inv:=fun m t g3 n3=> ∃(j:Nat) (vv:Value),m+j=vals.length∧t 0=v1∧t 1=v2∧t 5=ptr ls 0∧t 7=vv∧t 8= .int .i64 (j:Nat)∧Sub g2 g3∧OwnS encI 5 g2 g3 vv (XaO 0 (vals.take j))) ?_
  ⟨0,_,by omega,rfl,rfl,rfl,rfl,rfl,Sub.refl _,OwnS.nil⟩
 rintro I m t g3 n3 ih ⟨j,vv,hm,q0,q1,q5,q7,q8,s3,ho⟩
 simp only [QaD]
 rw [q0,q8,q7]
 have hlen:(XaO 0 (vals.take j)).length≤80:=by rw [Xbf,List.length_take];omega
 refine h1.len (QdN (Xj (fun hj=> ?_) (fun hj=> ?_)))
 ·have hj':j<vals.length:=by omega
  obtain ⟨x,hx⟩: ∃x,vals[j]? =some x:=⟨_,List.getElem?_eq_getElem hj'⟩
  have hxr:=hv x (List.mem_of_getElem? hx)
  have h13:Sl Qel 1 g3 v1 vals:=(hu1.mono (J8 _ _)).mono s3
  refine h13.idx Xcn hx (fun l o ha=> ?_)
  rw [Zb]
  refine ha.ld (i:=0) rfl ?_
  rw [Zax,Jf (by omega) (by omega),Jh,Jf (by omega) (by omega)]
  refine Xgy ?_
  rw [QaI]
  refine ⟨by decide,?_⟩
  rw [Int.tmod_eq_emod_of_nonneg (by omega),Jce,Jf (by omega) (by omega),Jh,Jf (by omega) (by omega)]
  refine Xgy ?_
  rw [QaI]
  refine ⟨by decide,?_⟩
  rw [Int.tmod_eq_emod_of_nonneg (by omega),Jce,Jf (by omega) (by omega),Jh,Jf (by omega) (by omega)]
  refine Xgy (Zhs ?_)
  change Xf (reps (ow4 j x).length (encI Xw)) (Jbh 0 (ow4 j x)) _
  refine Zgm ?_
  intro hn4
  have s4:=(Sub.refl g3).new hn4 (some (.cells ((ow4 j x).map encI).flatten .exact))
  have hsl:Sl encI 5 (upd g3 n3 (some (.cells ((ow4 j x).map encI).flatten .exact))) (.slice (some ⟨n3,0,none⟩) 4 4) (ow4 j x):=Rd.lit (Xa _ _ _) rfl
  have h4l:(ow4 j x).length=4:=rfl
  refine (ho.mono s4).append (s3.trans s4) hsl JbB (by decide) (by rw [h4l];omega) (by rw [h4l];omega) (fun v5 g5 n5 k1 k2 _ _=> ?_)
  rw [Jh,JaL (by omega)]
  refine ih (m-1) _ _ _ (by omega) ⟨j+1,v5,by omega,q0,q1,q5,rfl,rfl,k1,?_⟩
  rw [take_add hx,Jel,List.length_take,Nat.zero_add,Nat.min_eq_left (by omega)];exact k2
 have hjl:vals.take j=vals:=List.take_of_length_le (by omega)
 rw [hjl] at ho hlen
 simp only [ZaB,QH]
 show Xf (encI Xw) _ _
 refine fI0 ?_
 change Xf (reps ([⟨22,0,0,0,0⟩]:List Ins).length (encI Xw)) (Jbh 0 [⟨22,0,0,0,0⟩]) _
 refine Zgm ?_
 intro hn4
 have s4:=(Sub.refl g3).new hn4 (some (.cells (([⟨22,0,0,0,0⟩]:List Ins).map encI).flatten .exact))
 have hsl:Sl encI 5 (upd g3 n3 (some (.cells (([⟨22,0,0,0,0⟩]:List Ins).map encI).flatten .exact))) (.slice (some ⟨n3,0,none⟩) 1 1) [⟨22,0,0,0,0⟩]:=Rd.lit (Xa _ _ _) rfl
 show Zt (t 7) _ 5 40 _ _ _
 rw [q7]
 refine (ho.mono s4).append (s3.trans s4) hsl JbB (by decide) (by rw [List.length_singleton];omega) (by rw [List.length_singleton];omega) (fun v5 g5 n5 k1 k2 _ _=> ?_)
 have hgood:=Zgp hv
 have hop: ∀i∈owI vals,0≤i.op∧i.op≤22:=fun i hi=>(hgood i hi).1
 have hil:(owI vals).length=4*vals.length+1:=by unfold owI;rw [List.length_append,Xbf];rfl
 have hcl:(codeF (owI vals)).length=4*vals.length+1:=by unfold codeF;rw [List.length_map,hil]
 have y5:=y2.mono k1
 refine Zd9 (is:=owI vals) k2.sl hop (by omega) (fun v6 g6 n6 s6 o6=> ?_)
 have y6:=y5.mono s6
 refine Zd2 (o:=o2) (Qbl y5.live o6) y6.live (by decide) (by decide) (by omega) (fun w g7 n7 s7 hfr c7=> ?_)
 have y7:=y6.mono s7
 refine Jav rfl (Jav rfl ?_)
 simp only [Qz]
 refine QbE (Zc rfl (QaY (Zc rfl ?_)))
 simp only [Jt,Qp]
 have hFx: ∀{v:Value} {xs:List Int},Sl Qel 1 (unc o2 g2) v xs→Sl Qel 1 (un w o2 g7) v xs:=fun {v xs} h=>by
  have h6:Sl Qel 1 (unc o2 g6) v xs:=h.mono (Sub.uncs y2.live (k1.trans s6))
  refine Sl.mono (g:=un w o2 g6) (h6.keep (fun l b e hbl=> ?_)) (QaW (Sub.uncs y6.live s7))
  have e6:g6 l=some b:=(J8 o2 g6).live e
  have hm: ¬w.mem l:=fun hm=>by rw [hfr l hm] at e6;cases e6
  unfold un
  rw [if_neg hm];exact e
 have hF1:=hFx hu1
 have hF2:=hFx hu2
 have a7:XS (un w o2 g7) o2 g7 ls W2 w wS0 (JbI 0 2 (codeF (owI vals))) (5*0) (.slice none 0 0) (.slice none 0 0) [] []:=
  ⟨⟨y7,c7,CSok.new QcQ (by decide) (by omega) (XeB hop) _⟩,Sub.refl _,OutH.nil,OutH.nil,fun l h=>nomatch h⟩
 generalize un w o2 g7=F at hF1 hF2 a7
 refine X8 (m:=2000) (Inv:=fun m t g9 n9=> ∃(i:Nat) (o:Col Cl) (W:XaS) (S:Sys) (C:Cr) (vt vs:Value) (ts ss:List Int) (p s ph:Nat),m+i=2000∧t 0=v1∧t 1=v2∧t 5=ptr ls 0∧t 9=ptr w.lc 0∧t 11=vt∧t 12=vs∧t 13= .int .i64 (i:Nat)∧
   XS F o g9 ls W w S C (5*i) vt vs ts ss∧OW vals C S p s ts ss ph∧3*(4*vals.length+1-p)+2*((p+2)/4-s)+ph+(i-60)≤3*(4*vals.length+1)+1) ?_
  ⟨0,_,_,_,_,_,_,_,_,0,0,1,by omega,q0,q1,q5,rfl,rfl,rfl,rfl,a7,OW.start hv,by omega⟩
 rintro I m t g9 n9 ih ⟨i,o,W,S,C,vt,vs,ts,ss,p,s,ph,hmi,q0,q1,q5,q9,q11,q12,q13,a,ow,hμ⟩
 simp only [Zaz]
 rw [q13,q9,q5,q1]
 have hpl:=ow.pl
 have hsl:=ow.sl
 have htl:ts.length≤20:=by rw [ow.ts,List.length_map,List.length_take];omega
 have hssl:ss.length≤20:=by rw [ow.ss,List.length_map,List.length_take];omega
 refine QdN (Xj (fun hi=> ?_) (fun hi=>by exfalso;omega))
 have hi':i<2000:=by omega
 have jn: ∀(t':Env) {o':Col Cl} {W':XaS} {S':Sys} {C':Cr} {k':Nat} (ve:Value) (evs:List Evt) (p' s' ph':Nat) (g':G) (n':Nat),t' 0=v1→t' 1=v2→t' 5=ptr ls 0→t' 9=ptr w.lc 0→t' 11=vt→t' 12=vs→t' 13= .int .i64 (i:Nat)→t' 14=ve→
   XS F o' g' ls W' w S' C' k' vt vs ts ss→Sl JaM 5 (JeW vt vs (un w o' g')) ve evs→evs.length≤3→OW vals C' ((S'.up 0).1.hear 0).1 p' s' (ts++Qaw evs) (ss++Z0 evs) ph'→k'≤5*i+4→
   3*(4*vals.length+1-p')+2*((p'+2)/4-s')+ph'+(i+1-60)≤3*(4*vals.length+1)+1→Zp AC K (Qg AC K) I t' g' n':=by
  intro t' o' W' S' C' k' ve evs p' s' ph' g' n' p0 p1 p5 p9 p11 p12 p13 p14 a' he hel ow' hk' hμ'
  simp only [Zp]
  have hsF:=a'.subF
  have ar:=a'.rebase
  generalize JeW vt vs (un w o' g')=H at he hsF ar
  have tlen: ∀j,(Qaw (evs.take j)).length≤3:=fun j=>by
   unfold Qaw
   rw [List.length_map]
   exact Nat.le_trans (List.length_filter_le _ _) (by rw [List.length_take];omega)
  have slen: ∀j,(Z0 (evs.take j)).length≤3:=fun j=>by
   unfold Z0
   rw [List.length_map]
   exact Nat.le_trans (List.length_filter_le _ _) (by rw [List.length_take];omega)
  refine X8 (m:=evs.length) (Inv:=fun mm t2 gg nn=> ∃(j:Nat) (vt' vs':Value),mm+j=evs.length∧t2 0=v1∧t2 1=v2∧t2 5=ptr ls 0∧t2 9=ptr w.lc 0∧t2 11=vt'∧t2 12=vs'∧t2 13= .int .i64 (i:Nat)∧t2 14=ve∧t2 15= .int .i64 (j:Nat)∧
    XS H o' gg ls W' w S' C' k' vt' vs' (ts++Qaw (evs.take j)) (ss++Z0 (evs.take j))) ?_ ⟨0,vt,vs,by omega,p0,p1,p5,p9,p11,p12,p13,p14,rfl,by
     show XS H o' g' ls W' w S' C' k' vt vs (ts++[]) (ss++[])
     rw [List.append_nil,List.append_nil];exact ar⟩
  rintro I2 mm t2 gg nn ih2 ⟨j,vt',vs',hmj,r0,r1,r5,r9,r11,r12,r13,r14,r15,ax⟩
  simp only [ZaD]
  rw [r14,r15,r11]
  have heg:Sl JaM 5 gg ve evs:=(he.mono ax.f).mono (XbS _ _ _)
  refine heg.len (QdN (Xj (fun hj=> ?_) (fun hj=> ?_)))
  ·have hj':j<evs.length:=by omega
   obtain ⟨e,hej⟩: ∃e,evs[j]? =some e:=⟨_,List.getElem?_eq_getElem hj'⟩
   have hst:Qaw (evs.take (j+1))=Qaw (evs.take j)++(if e.kind=8 then [e.val] else []):=by
    rw [take_add hej,Jcy]
    congr 1
    by_cases h8:e.kind=8<;>simp [Qaw,h8]
   have hss:Z0 (evs.take (j+1))=Z0 (evs.take j)++(if e.kind=3 then [e.val] else []):=by
    rw [take_add hej,Jb8]
    congr 1
    by_cases h8:e.kind=3<;>simp [Z0,h8]
   have htj:=tlen j
   have hsj:=slen j
   have j6: ∀(t3:Env) (vt3:Value) (g3':G) (n3':Nat),t3 0=v1→t3 1=v2→t3 5=ptr ls 0→t3 9=ptr w.lc 0→t3 11=vt3→t3 12=vs'→t3 13= .int .i64 (i:Nat)→t3 14=ve→t3 15= .int .i64 (j:Nat)→
     XS H o' g3' ls W' w S' C' k' vt3 vs' (ts++Qaw (evs.take (j+1))) (ss++Z0 (evs.take j))→XM AC K (Qg AC K) I I2 t3 g3' n3':=by
    intro t3 vt3 g3' n3' e0 e1 e5 e9 e11 e12 e13 e14 e15 a3
    simp only [XM]
    rw [e14,e15,e12]
    have heg3:Sl JaM 5 g3' ve evs:=(he.mono a3.f).mono (XbS _ _ _)
    have j7: ∀(t4:Env) (vs4:Value) (g4':G) (n4':Nat),t4 0=v1→t4 1=v2→t4 5=ptr ls 0→t4 9=ptr w.lc 0→t4 11=vt3→t4 12=vs4→t4 13= .int .i64 (i:Nat)→t4 14=ve→t4 15= .int .i64 (j:Nat)→
      XS H o' g4' ls W' w S' C' k' vt3 vs4 (ts++Qaw (evs.take (j+1))) (ss++Z0 (evs.take (j+1)))→QM AC K (Qg AC K) I I2 t4 g4' n4':=by
     intro t4 vs4 g4' n4' f0 f1 f5 f9 f11 f12 f13 f14 f15 a4
     simp only [QM]
     rw [f15,Jh,JaL (by omega)]
     exact ih2 (mm-1) _ _ _ (by omega) ⟨j+1,vt3,vs4,by omega,f0,f1,f5,f9,f11,f12,f13,f14,rfl,a4⟩
    refine heg3.idx ZY hej (fun l o ha=> ?_)
    rw [Zb]
    refine ha.ld (i:=0) rfl (Zae (Xj (fun h3=> ?_) (fun h3=> ?_)))
    ·refine heg3.idx ZY hej (fun l2 o2 ha2=> ?_)
     rw [Zb]
     refine ha2.ld (i:=4) rfl ?_
     refine ⟨rfl,by decide,?_⟩
     rw [Jp]
     change Zq (Xdi e.val) .exact g3' n3' _
     intro hn
     have s10:=(Sub.refl g3').new hn (some (.cells (Xdi e.val) .exact))
     refine (a3.mono s10).appS (Sl.one (QaQ _) (Xa _ _ _)) (by rw [List.length_append,List.length_singleton];omega) (fun v' g'' n'' a4=> ?_)
     refine j7 _ v' _ _ e0 e1 e5 e9 e11 rfl e13 e14 e15 ?_
     rw [hss,if_pos h3,←List.append_assoc];exact a4
    ·refine j7 _ vs' _ _ e0 e1 e5 e9 e11 e12 e13 e14 e15 ?_
     rw [hss,if_neg h3,List.append_nil];exact a3
   refine heg.idx ZY hej (fun l o ha=> ?_)
   rw [Zb]
   refine ha.ld (i:=0) rfl (Zae (Xj (fun h8=> ?_) (fun h8=> ?_)))
   ·refine heg.idx ZY hej (fun l2 o2 ha2=> ?_)
    rw [Zb]
    refine ha2.ld (i:=4) rfl ?_
    refine ⟨rfl,by decide,?_⟩
    rw [Jp]
    change Zq (Xdi e.val) .exact gg nn _
    intro hn
    have s10:=(Sub.refl gg).new hn (some (.cells (Xdi e.val) .exact))
    refine (ax.mono s10).appT (Sl.one (QaQ _) (Xa _ _ _)) (by rw [List.length_append,List.length_singleton];omega) (fun v' g'' n'' a4=> ?_)
    refine j6 _ v' _ _ r0 r1 r5 r9 rfl r12 r13 r14 r15 ?_
    rw [hst,if_pos h8,←List.append_assoc];exact a4
   ·refine j6 _ vt' _ _ r0 r1 r5 r9 r11 r12 r13 r14 r15 ?_
    rw [hst,if_neg h8,List.append_nil];exact ax
  ·have hjl:evs.take j=evs:=List.take_of_length_le (by omega)
   rw [hjl] at ax
   have ab:=ax.back hsF
   simp only [Qax]
   show AC QO [t2 5,.int .i64 0] gg nn _
   rw [r5]
   refine ab.b.up 0 (fun x10 o10 g10 n10 W10 b10 u10=> ?_)
   have a10:=ab.step b10 u10
   show AC ZG [t2 5,.int .i64 0] g10 n10 _
   rw [r5]
   refine a10.b.hear (by omega) 0 (fun o11 g11 n11 W11 b11 u11=> ?_)
   have a11:=a10.step b11 u11
   refine Jav rfl (Jav rfl (Jhj fun g12 s12=> ?_))
   have a12:=a11.mono s12
   show AC JN [t2 9,_] g12 _ _
   rw [r9]
   refine a12.b.hearC _ (fun x13 g13 n13 b13 u13=> ?_)
   have a13:=a12.step b13 u13
   rw [Zfd ow'.waits] at a13
   simp only [Xaz]
   show Jb .int .add (t2 13) (.int .i64 1) _
   rw [r13,Jh,JaL (by omega)]
   exact ih (m-1) _ _ _ (by omega) ⟨i+1,_,_,_,_,vt',vs',_,_,p',s',ph',by omega,r0,r1,r5,r9,r11,r12,rfl,⟨⟨a13.b.sys,a13.b.co,a13.b.ok.le (by omega)⟩,a13.f,a13.t,a13.s,a13.d⟩,ow',hμ'⟩
 refine Xdo a.b.co (fun n10=>Qu (fun hr=> ?_) (fun hr=> ?_))
 ·have hgo: ¬(p=4*vals.length+1∧s=(p+2)/4):=fun h=>by
   have:=ow.run
   rw [hr] at this
   have:=of_decide_eq_true this.symm
   omega
  obtain ⟨p',w1,hp'⟩:=ow.exec hv
  have hxl:=JeM C S
  have hdl:=Qc7 (C.exec S).1 (C.exec S).2.1
  have hw1:=w1.pl
  have hw2:=w1.sl
  refine (a).b.execF (by omega) (fun x1 o1 g1' n1' W1 b1 u1 e1=> ?_)
  have a1:=(a).step b1 u1
  have l1:=(a).evs e1
  have lx1:Sl JaM 5 g1' x1 (C.exec S).2.2:=(e1.slun ZY (fun _ h=>CW.memL h)).mono (XbS _ _ _)
  have d1:Sl Qel 1 g1' v2 drs:=(hF2.mono a1.f).mono (XbS _ _ _)
  obtain ⟨s2,ph2,w2,hs2⟩:=w1.drain
  have hw3:=w2.sl
  rw [List.append_assoc,List.append_assoc,←Jcy,←Jb8] at w2
  refine d1.len (Xem (Xj (fun hge=> ?_) (fun hge=> ?_)))
  ·refine Xcm a1 lx1 hxl (by omega) (fun l v3 x4 v5 o5 g5 n5 W5 a5 l5=> ?_)
   refine jn _ v5 _ p' s2 ph2 _ _ q0 q1 q5 q9 q11 q12 q13 rfl a5 l5 (by rw [List.length_append];omega) w2 (by omega) ?_
   rcases hp' with hp'|⟨hp',hp''⟩<;>rcases hs2 with ⟨h1,h2,h3⟩|⟨h1,h2⟩|⟨h1,h2,h3⟩<;>omega
  ·have hi2:i<drs.length:=by omega
   obtain ⟨x,hx⟩: ∃x,drs[i]? =some x:=⟨_,List.getElem?_eq_getElem hi2⟩
   have hxr:=hd x (List.mem_of_getElem? hx)
   refine d1.idx Xcn hx (fun l o ha=> ?_)
   rw [Zb]
   refine ha.ld (i:=0) rfl ?_
   rw [QaI]
   refine ⟨by decide,?_⟩
   refine Zae (Xj (fun _=> ?_) (fun _=> ?_))
   ·refine Xcm a1 lx1 hxl (by omega) (fun l v3 x4 v5 o5 g5 n5 W5 a5 l5=> ?_)
    refine jn _ v5 _ p' s2 ph2 _ _ q0 q1 q5 q9 q11 q12 q13 rfl a5 l5 (by rw [List.length_append];omega) w2 (by omega) ?_
    rcases hp' with hp'|⟨hp',hp''⟩<;>rcases hs2 with ⟨h1,h2,h3⟩|⟨h1,h2⟩|⟨h1,h2,h3⟩<;>omega
   ·refine jn _ x1 _ p' s ph _ _ q0 q1 q5 q9 q11 q12 q13 rfl a1 l1 (by omega) w1.calm (by omega) ?_
    rcases hp' with hp'|⟨hp',hp''⟩<;>omega
 ·refine ZcF a.b.co (fun vb g10 n11 s10 e10=> ?_)
  have a10:=a.mono s10
  refine e10.len (Jf5 (Xj (fun hb=> ?_) (fun hb=> ?_)))
  ·have hgo: ¬(p=4*vals.length+1∧s=(p+2)/4):=fun h=>by
    rw [ow.b,XdT] at hb
    omega
   obtain ⟨p',w1,hp'⟩:=ow.exec hv
   have hxl:=JeM C S
   have hdl:=Qc7 (C.exec S).1 (C.exec S).2.1
   have hw1:=w1.pl
   have hw2:=w1.sl
   refine (a10).b.execF (by omega) (fun x1 o1 g1' n1' W1 b1 u1 e1=> ?_)
   have a1:=(a10).step b1 u1
   have l1:=(a10).evs e1
   have lx1:Sl JaM 5 g1' x1 (C.exec S).2.2:=(e1.slun ZY (fun _ h=>CW.memL h)).mono (XbS _ _ _)
   have d1:Sl Qel 1 g1' v2 drs:=(hF2.mono a1.f).mono (XbS _ _ _)
   obtain ⟨s2,ph2,w2,hs2⟩:=w1.drain
   have hw3:=w2.sl
   rw [List.append_assoc,List.append_assoc,←Jcy,←Jb8] at w2
   refine d1.len (Xem (Xj (fun hge=> ?_) (fun hge=> ?_)))
   ·refine Xcm a1 lx1 hxl (by omega) (fun l v3 x4 v5 o5 g5 n5 W5 a5 l5=> ?_)
    refine jn _ v5 _ p' s2 ph2 _ _ q0 q1 q5 q9 q11 q12 q13 rfl a5 l5 (by rw [List.length_append];omega) w2 (by omega) ?_
    rcases hp' with hp'|⟨hp',hp''⟩<;>rcases hs2 with ⟨h1,h2,h3⟩|⟨h1,h2⟩|⟨h1,h2,h3⟩<;>omega
   ·have hi2:i<drs.length:=by omega
    obtain ⟨x,hx⟩: ∃x,drs[i]? =some x:=⟨_,List.getElem?_eq_getElem hi2⟩
    have hxr:=hd x (List.mem_of_getElem? hx)
    refine d1.idx Xcn hx (fun l o ha=> ?_)
    rw [Zb]
    refine ha.ld (i:=0) rfl ?_
    rw [QaI]
    refine ⟨by decide,?_⟩
    refine Zae (Xj (fun _=> ?_) (fun _=> ?_))
    ·refine Xcm a1 lx1 hxl (by omega) (fun l v3 x4 v5 o5 g5 n5 W5 a5 l5=> ?_)
     refine jn _ v5 _ p' s2 ph2 _ _ q0 q1 q5 q9 q11 q12 q13 rfl a5 l5 (by rw [List.length_append];omega) w2 (by omega) ?_
     rcases hp' with hp'|⟨hp',hp''⟩<;>rcases hs2 with ⟨h1,h2,h3⟩|⟨h1,h2⟩|⟨h1,h2,h3⟩<;>omega
    ·refine jn _ x1 _ p' s ph _ _ q0 q1 q5 q9 q11 q12 q13 rfl a1 l1 (by omega) w1.calm (by omega) ?_
     rcases hp' with hp'|⟨hp',hp''⟩<;>omega
  ·obtain ⟨et,es⟩:=ow.done hr (List.eq_nil_of_length_eq_zero (by omega))
   simp only [X1]
   have ht:=(a10.t.slun QaQ (fun _ h=>CW.memL h)).mono (XbS _ _ _)
   have hs:=(a10.s.slun QaQ (fun _ h=>CW.memL h)).mono (XbS _ _ _)
   rw [et] at ht
   rw [es] at hs
   exact Zgw _ ((hF1.mono a10.f).mono (XbS _ _ _)) ht hs hv hN q0 q11 q12 hK
end Go.Proofs.YtkdfaijmjmnhjaaGreat.Gen
namespace Go.Proofs.YtkdfaijmjmnhjaaGreat.Gen
open Go Go.Proofs.YtkdfaijmjmnhjaaGreat.Abs Go.RowKit
variable {g:G} {n:Nat}
abbrev B8:={ x:Int // 0≤x∧x≤255 }
theorem QgX (c:List Value) (h:RepL g [.i .u8] c): ∃x:B8,c=Qel x.1:=by
 obtain ⟨a,r,e,q,h2⟩:=Zhl h
 have e2:=Jeq h2
 subst e2
 exact ⟨⟨a,Xhh q⟩,e⟩
theorem Jec {args:List Value} (hr:Qe5 g [(false,[.s [.i .u8]]),(false,[.s [.i .u8]])] args) {K:Cont} (hK: ∀g' n',K (.bool true) g' n'):AC Qe args g n K:=by
 cases hr with
 | cons h1 hr=>
 cases hr with
 | cons h2 hr=>
  cases hr
  obtain ⟨v1,r1,e1,h1,hn1⟩:=Jg6 h1
  have f1:=Jeq hn1
  subst f1
  cases e1
  obtain ⟨v2,r2,e2,h2,hn2⟩:=Jg6 h2
  have f2:=Jeq hn2
  subst f2
  cases e2
  obtain ⟨xs,h1,_⟩:=Qgr QgX h1
  obtain ⟨ys,h2,_⟩:=Qgr QgX h2
  have hs1:=Sl.ofSub (enc:=Qel) (f:=fun (x:B8)=>x.1) h1
  have hs2:=Sl.ofSub (enc:=Qel) (f:=fun (x:B8)=>x.1) h2
  refine QdS hs1 hs2 ?_ ?_ (fun n' g'=>hK g' n')
  ·intro u hu
   obtain ⟨x,_,rfl⟩:=List.mem_map.1 hu
   exact x.2
  ·intro u hu
   obtain ⟨x,_,rfl⟩:=List.mem_map.1 hu
   exact x.2
end Go.Proofs.YtkdfaijmjmnhjaaGreat.Gen
