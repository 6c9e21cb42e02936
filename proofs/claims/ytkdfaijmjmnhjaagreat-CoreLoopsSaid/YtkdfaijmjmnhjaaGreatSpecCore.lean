import Derived.Test.YtkdfaijmjmnhjaaGreatSpecCoreC
/- What the functions come to. -/
set_option linter.all false
set_option linter.deprecated false
namespace Go.Proofs.YtkdfaijmjmnhjaaGreat.Gen
open Go Go.Proofs.YtkdfaijmjmnhjaaGreat.Abs Go.RowKit
variable {g:G} {n:Nat}
section
variable {K:Cont}
def codeF (is:List Ins):List Int:=is.map (fun i=>(Q9 i).1)
theorem ZbP {v:Value} {is:List Ins} (hv:Sl encI 5 g v is) (hop: ∀i∈is,0≤i.op∧i.op≤22) (hl:is.length≤4096) (hK: ∀v' g' n',Sub g g'→OwnS XbH 1 g g' v' (codeF is)→K v' g' n'):AC Jj [v] g n K:=by
 refine ACalls.fold Qc ?_
 rw [←Xb4]
 simp only [Jbl]
 refine QH (m:=is.length) (Inv:=fun m t g1 n1=> ∃(j:Nat) (w:Value),m+j=is.length∧t 0=v∧t 3=w∧t 4= .int .i64 (j:Nat)∧Sub g g1∧OwnS XbH 1 g g1 w (codeF (is.take j))) ?_
  ⟨0,_,by omega,rfl,rfl,rfl,Sub.refl _,OwnS.nil⟩
 rintro I m t g1 n1 ih ⟨j,w,hm,q0,q3,q4,s1,ho⟩
 simp only [JaW]
 rw [q0,q4,q3]
 have hv1:=hv.mono s1
 refine hv1.len (Qck (Jg (fun hj=> ?_) (fun hj=> ?_)))
 ·have hj':j<is.length:=by omega
  obtain ⟨i,hi⟩: ∃i,is[j]? =some i:=⟨_,List.getElem?_eq_getElem hj'⟩
  obtain ⟨h0,h1⟩:=hop i (List.mem_of_getElem? hi)
  refine hv1.idx Z0 hi (fun l o ha=> ?_)
  rw [Zb]
  refine ha.ldN (by rw [Z0]) ?_
  refine JcN h0 h1 (fun g2 n2 s2=> ?_)
  refine QY rfl (QY rfl ?_)
  refine ⟨rfl,by decide,?_⟩
  rw [Xo]
  change Qp (XbH (Q9 i).1) .exact g2 n2 _
  intro hn
  have s3:=(Sub.refl g2).new hn (some (.cells (XbH (Q9 i).1) .exact))
  have x3:upd g2 n2 (some (.cells (XbH (Q9 i).1) .exact)) n2=some (.cells (XbH (Q9 i).1) .exact):=Xa _ _ _
  have hlt:(codeF (is.take j)).length=j:=by unfold codeF;rw [List.length_map,List.length_take];omega
  refine (ho.mono (s2.trans s3)).append ((s1.trans s2).trans s3) (Sl.one (Xbt _) x3) XaS (by decide) (by rw [hlt,List.length_singleton];omega) (by rw [hlt,List.length_singleton];omega) (fun v' g4 n4 k1 k2 _ _=> ?_)
  rw [Zg,QW (by omega)]
  refine ih (m-1) _ _ _ (by omega) ⟨j+1,v',by omega,q0,rfl,rfl,k1,?_⟩
  have e:codeF (is.take (j+1))=codeF (is.take j)++[(Q9 i).1]:=by unfold codeF;rw [take_add hi,List.map_append];rfl
  rw [e];exact k2
 ·have hjl:is.take j=is:=List.take_of_length_le (by omega)
  rw [hjl] at ho
  exact Ja (Sub.refl _) (hK _ _ _ s1 ho)
theorem Qcl {is:List Ins} (hop: ∀i∈is,0≤i.op∧i.op≤22): ∀u∈codeF is,0≤u∧u<18446744073709551616:=by
 intro u hu
 obtain ⟨i,hi,rfl⟩:=List.mem_map.1 hu
 unfold Q9
 split
 ·rename_i hg
  exact (Qa5 (hop i hi).1 (hop i hi).2 hg).2
 ·exact ⟨Int.le_refl 0,by decide⟩
theorem JdT (w:CW) (o:Col Cl) (g:G):Sub (un w o g) g:=(Jhh w o g).trans (Z4 o g)
theorem JfN {a b c:Int} {K:List Value→Prop} (k:K (encI ⟨a,b,0,0,c⟩)):Qe (encI Jm) [(0,none,.int .i64 a),(1,none,.int .i64 b),(4,none,.int .i64 c)] K:=⟨rfl,by decide,rfl,Nat.le_of_ble_eq_true rfl,rfl,Nat.le_of_ble_eq_true rfl,k⟩
theorem JcJ {a b b' c:Int} {K:List Value→Prop} (k:K (encI ⟨a,b,b',0,c⟩)):Qe (encI Jm) [(0,none,.int .i64 a),(1,none,.int .i64 b),(2,none,.int .i64 b'),(4,none,.int .i64 c)] K:=⟨rfl,by decide,rfl,Nat.le_of_ble_eq_true rfl,rfl,Nat.le_of_ble_eq_true rfl,rfl,Nat.le_of_ble_eq_true rfl,k⟩
def wkI:List Ins:=[⟨1,1,0,0,5⟩,⟨9,1,0,0,192⟩,⟨8,2,0,0,192⟩,⟨8,3,0,0,193⟩]
def wkC:Cr:=Xau 0 2 (codeF wkI)
def wk1:Res:=wkC.exec wS0
def wk2:Res:=wk1.1.exec wk1.2.1
def wk3:Res:=wk2.1.exec wk2.2.1
def wk4:Res:=wk3.1.exec wk3.2.1
theorem wkOk:CSok wkC wS0 0:=CSok.new Xbq (by decide) (by decide) (Qcl (by decide)) 0
theorem wkOk1:CSok wk1.1 wk1.2.1 3:=wkOk.exec (by decide)
theorem wkOk2:CSok wk2.1 wk2.2.1 6:=wkOk1.exec (by decide)
theorem ZhB:CSok wk3.1 wk3.2.1 9:=wkOk2.exec (by decide)
theorem XhK:wk2.2.2=[⟨12,0,3,0,5⟩]:=by decide +kernel
theorem QhJ:wk3.2.2=[⟨2,0,3,0,5⟩]:=by decide +kernel
theorem ZhH:wk4.2.2=[⟨10,0,0,0,0⟩]:=by decide +kernel
theorem wkR:wk4.1.r=[0,5,5,0,0,0,0,0]:=by decide +kernel
theorem wkS:wk4.1.runs=false:=by decide +kernel
theorem wkB:wk4.1.b.length=1:=by decide +kernel
theorem Jdp {v:Value} {e:Evt} {K:Prop} (h:Sl QbI 5 g v [e]) {k:Nat} {x:Value} {J:Value→Prop} (hk:(QbI e)[k]? =some x) (kk:J x):Jd v (.int .i64 0) 5 fun p=>Qd p fun l o=>kLd g l (o+k) J:=by
 refine h.idx (j:=0) Xaw rfl (fun l o ha=> ?_)
 rw [Zb]
 exact ha.ld hk kk
set_option maxRecDepth 100000 in
theorem Zak (hK: ∀g' n',K (.bool true) g' n'):AC Zh [] g n K:=by
 refine ACalls.fold Qc ?_
 rw [←QbU]
 simp only [Za9]
 refine JbW (fun g1 n1 s1=> ?_)
 refine Xcx plainC (img:=[]) Sl.nil (fun h=>absurd ⟨rfl,.inl rfl⟩ h) (fun _ _ l o2 g2 n2 W2 s2 h2=> ?_)
 refine QY rfl (QY rfl ?_)
 refine JfN (JcJ (JcJ (JcJ ?_)))
 refine ⟨rfl,by decide,rfl,Nat.le_of_ble_eq_true rfl,rfl,Nat.le_of_ble_eq_true rfl,rfl,Nat.le_of_ble_eq_true rfl,?_⟩
 rw [Xo]
 change Qp (wkI.map encI).flatten .exact g2 n2 _
 intro hn
 have s3:=(Sub.refl g2).new hn (some (.cells (wkI.map encI).flatten .exact))
 have x3:upd g2 n2 (some (.cells (wkI.map encI).flatten .exact)) n2=some (.cells (wkI.map encI).flatten .exact):=Xa _ _ _
 have h3:=h2.mono s3
 generalize upd g2 n2 (some (.cells (wkI.map encI).flatten .exact))=g3 at s3 x3 h3
 have hsl:Sl encI 5 g3 (.slice (some ⟨n2,0,none⟩) 4 4) wkI:=Rd.lit x3 rfl
 refine ZbP hsl (by decide) (by decide) (fun v4 g4 n4 s4 o4=> ?_)
 have h4:=h3.mono s4
 refine Jcp (o:=o2) (Zbc h3.live o4) h4.live (by decide) (by decide) (by decide) (fun w g5 n5 s5 hfr c5=> ?_)
 have h5:=h4.mono s5
 refine QY rfl (QY rfl ?_)
 refine Xa7 (Xb rfl (Xa7 (Xb rfl (ZaE (Xb rfl (ZaE (Xb rfl ?_)))))))
 refine XaZ h5 c5 wkOk (by decide) (fun v6 o6 g6 n6 W6 h6 c6 u6 _=> ?_)
 refine XaZ h6 c6 wkOk1 (by decide) (fun v7 o7 g7 n7 W7 h7 c7 u7 e7=> ?_)
 refine XaZ h7 c7 wkOk2 (by decide) (fun v8 o8 g8 n8 W8 h8 c8 u8 e8=> ?_)
 refine XaZ h8 c8 ZhB (by decide) (fun v9 o9 g9 n9 W9 h9 c9 u9 e9=> ?_)
 have a7:Sl QbI 5 g9 v7 wk2.2.2:=(e7.mono (u8.trans u9)).mono (JdT _ _ _)
 have a8:Sl QbI 5 g9 v8 wk3.2.2:=(e8.mono u9).mono (JdT _ _ _)
 have a9:Sl QbI 5 g9 v9 wk4.2.2:=e9.mono (JdT _ _ _)
 rw [XhK] at a7
 rw [QhJ] at a8
 rw [ZhH] at a9
 refine a7.len (ZP (Xc rfl ?_))
 refine Jdp (K:=True) a7 (k:=0) rfl (ZP (Xc rfl ?_))
 refine Jdp (K:=True) a7 (k:=2) rfl (ZP (Xc rfl ?_))
 refine a8.len (ZP (Xc rfl ?_))
 refine Jdp (K:=True) a8 (k:=0) rfl (ZP (Xc rfl ?_))
 refine Jdp (K:=True) a8 (k:=4) rfl (ZP (Xc rfl ?_))
 refine a9.len (ZP (Xc rfl ?_))
 refine Jdp (K:=True) a9 (k:=0) rfl (ZP (Xc rfl ?_))
 have c9:CoH o9 g9 w wk4.1:=c9
 refine Qfm c9 (fun g10 n10 s10=> ?_)
 rw [wkR]
 refine ⟨by decide,by decide,?_⟩
 simp only [QbG]
 refine Xce (v:= .int .u64 5) rfl (ZP (Xc rfl ?_))
 have c10:=c9.mono s10
 refine ZcG c10 (fun n11=> ?_)
 rw [wkS]
 refine ZaK (Xc rfl ?_)
 refine Jak c10 (fun v12 g12 n12 s12 e12=> ?_)
 refine e12.len (ZP ?_)
 rw [wkB]
 exact Ja (Sub.refl _) (hK _ _)
end
end Go.Proofs.YtkdfaijmjmnhjaaGreat.Gen
namespace Go.Proofs.YtkdfaijmjmnhjaaGreat.Gen
open Go Go.Proofs.YtkdfaijmjmnhjaaGreat.Abs Go.RowKit
variable {g:G} {n:Nat}
def noG:G:=fun _=>none
def CW.L (w:CW):List Nat:=[w.lc,w.lp,w.lb]
theorem CW.memL {w:CW} {l:Nat} (h:w.mem l):l∈w.L:=by rcases h with rfl|rfl|rfl<;>simp [CW.L]
theorem CW.ofL {w:CW} {l:Nat} (h:l∈w.L):w.mem l:=by
 simp only [CW.L,List.mem_cons,List.not_mem_nil,or_false] at h
 exact h
section
variable {o:Col Cl} {ls:Nat} {W:JaO} {w:CW} {S:Sys} {C:Cr} {K:Cont} {k:Nat}
theorem OutH.unw {α:Type} {enc:α→List Value} {z:Nat} {F:G} {v:Value} {xs:List α} {o':Col Cl} {g':G} (h:OutH enc z F w.L o g v xs) (k:Sub (un w o g) (un w o' g')):OutH enc z F w.L o' g' v xs:=
 h.keep fun l b hl ho hg=>by
  have:=k.live (show un w o g l=some b by rw [Je3 (fun h=>hl (CW.memL h)) ho];exact hg)
  exact ⟨(Xdc this).2.1,(Xdc this).2.2⟩
structure AS (o:Col Cl) (g:G) (ls:Nat) (W:JaO) (w:CW) (S:Sys) (C:Cr) (k:Nat) (v:Value) (evs:List Evt):Prop where
 sys:SysH o g ls W S
 co:CoH o g w C
 ok:CSok C S k
 out:OutH QbI 5 noG w.L o g v evs
variable {v:Value} {evs:List Evt}
theorem AS.app (h:AS o g ls W w S C k v evs) {x:Value} {ys:List Evt} (hx:Sl QbI 5 g x ys) (hl:evs.length+ys.length<1000000) (hK: ∀v' g' n',AS o g' ls W w S C k v' (evs++ys)→K v' g' n'):Qx v x 5 40 g n K:=by
 refine h.out.append Xaw h.sys.live ?_ (fun l b hF=>nomatch hF) hx Qem (by decide) (by omega) (by omega) (fun v' g2 n2 k1 k2 ho2=> ?_)
 ·obtain ⟨ds,e1,e2⟩:=h.co.hp
  obtain ⟨L,f,hr⟩:=id h.co.hb
  intro l hl
  rcases CW.ofL hl with rfl|rfl|rfl
  ·exact ⟨_,h.co.hc⟩
  ·exact ⟨_,e2⟩
  ·exact ⟨_,hr.hb⟩
 ·exact hK _ _ _ ⟨h.sys.same (fun l c e=>k1 l (.inr (.inr (by rw [e];simp)))),h.co.keep (fun l b hm ho' hg=>⟨ho',(k1 l (.inl (CW.memL hm))).trans hg⟩),h.ok,ho2⟩
theorem QeV (C:Cr) (S:Sys):(C.exec S).2.2.length≤2:=by
 unfold Cr.exec
 split
 ·exact Nat.zero_le _
 ·split
  ·exact Nat.le_succ 1
  ·split
   ·exact Nat.le_succ 1
   ·unfold Cr.doX
    split
    ·exact Nat.zero_le _
    split
    ·exact Nat.zero_le _
    split
    ·unfold Cr.loadX
     split
     ·exact Nat.le_succ 1
     ·split
      ·exact Nat.le_succ 1
      ·split
       ·exact Nat.le_succ 1
       ·exact Nat.zero_le _
    split
    ·unfold Cr.putX
     split
     ·exact Nat.le_succ 1
     ·split
      ·exact Nat.zero_le _
      ·exact Nat.le_succ 1
    split
    ·unfold Cr.fenceX
     split
     ·exact Nat.le_succ 1
     ·exact Nat.zero_le _
    split
    ·unfold Cr.lockX
     split
     ·exact Nat.le_succ 1
     ·split
      ·exact Nat.zero_le _
      ·split
       ·exact Nat.zero_le _
       ·split
        ·exact Nat.le_refl 2
        ·split
         ·exact Nat.le_refl 2
         ·exact Nat.le_succ 1
    split
    ·exact Nat.le_succ 1
    split
    ·exact Nat.le_succ 1
    ·exact Nat.zero_le _
theorem XcG (C:Cr) (S:Sys) (l q:Int):(C.flushX S l q).1.2.2.length≤1:=by
 unfold Cr.flushX
 split
 ·exact Nat.zero_le _
 ·split
  ·exact Nat.zero_le _
  ·exact Nat.le_refl 1
theorem QfG (C:Cr) (S:Sys):(C.drain S).2.2.length≤1:=by
 unfold Cr.drain
 split
 ·exact Nat.zero_le _
 ·split
  ·split
   ·exact Nat.le_refl 1
   ·exact Nat.zero_le _
  split
  ·split<;>exact XcG _ _ _ _
  split
  ·split<;>exact XcG _ _ _ _
  split
  ·split<;>exact Nat.zero_le _
  ·split<;>exact XcG _ _ _ _
theorem Jf5 (C:Cr) (m:Ms):(C.hear m).2.length≤1:=by
 unfold Cr.hear
 split
 ·exact Nat.le_refl 1
 ·exact Nat.zero_le _
theorem AS.exec (h:AS o g ls W w S C k v evs) (hk:k+3<100000) (hK: ∀x o' g' n' W',AS o' g' ls W' w (C.exec S).2.1 (C.exec S).1 (k+3) v evs→Sl QbI 5 g' x (C.exec S).2.2→K x g' n'):AC Jl [ptr w.lc 0,ptr ls 0] g n K:=
 XaZ h.sys h.co h.ok hk fun x o' g' n' W' h1 h2 h3 h4=>hK _ _ _ _ _ ⟨h1,h2,h.ok.exec hk,h.out.unw h3⟩ (h4.mono (JdT _ _ _))
theorem AS.drain (h:AS o g ls W w S C k v evs) (hk:k<100000) (hK: ∀x o' g' n' W',AS o' g' ls W' w (C.drain S).2.1 (C.drain S).1 (k+1) v evs→Sl QbI 5 g' x (C.drain S).2.2→K x g' n'):AC Qz [ptr w.lc 0,ptr ls 0] g n K:=
 Xdo h.sys h.co h.ok hk fun x o' g' n' W' h1 h2 h3 h4=>hK _ _ _ _ _ ⟨h1,h2,h.ok.drain hk,h.out.unw h3⟩ (h4.mono (JdT _ _ _))
theorem AS.hearC (h:AS o g ls W w S C k v evs) (m:Ms) (hK: ∀x g' n',AS o g' ls W w S (C.hear m).1 k v evs→Sl QbI 5 g' x (C.hear m).2→K x g' n'):AC QS [ptr w.lc 0,.agg (Xk m).toArray] g n K:=
 XdD h.sys h.co h.ok.ok.waits m fun x g' n' h1 h2 h3 h4=>hK _ _ _ ⟨h1,h2,h.ok.hearC m,h.out.unw h3⟩ (h4.mono (JdT _ _ _))
theorem AS.sysop {o':Col Cl} {g':G} {W':JaO} {S':Sys} {k':Nat} (h:AS o g ls W w S C k v evs) (u:Sub (unc o g) (unc o' g')) (hs:SysH o' g' ls W' S') (hc:CSok C S' k'):AS o' g' ls W' w S' C k' v evs:=
 ⟨hs,h.co.unc u,hc,h.out.unc u⟩
theorem AS.mono {g':G} (h:AS o g ls W w S C k v evs) (s:Sub g g'):AS o g' ls W w S C k v evs:=h.sysop (Sub.uncs h.sys.live s) (h.sys.mono s) h.ok
theorem AS.up (h:AS o g ls W w S C k v evs) (i:Int) (hK: ∀x o' g' n' W',AS o' g' ls W' w (S.up i).1 C k v evs→K x g' n'):AC JA [ptr ls 0,.int .i64 i] g n K:=
 ZeR h.sys h.ok.wf.shp (ZhF h.ok.wf) _ fun o' g' n' W' u h'=>hK _ _ _ _ _ (h.sysop u h' (h.ok.up i))
theorem AS.answer (h:AS o g ls W w S C k v evs) (i:Int) (hK: ∀x o' g' n' W',AS o' g' ls W' w (S.answer i).1 C k v evs→K x g' n'):AC QB [ptr ls 0,.int .i64 i] g n K:=
 ZcR h.sys (Xhb h.ok.wf) _ fun o' g' n' W' u h'=>hK _ _ _ _ _ (h.sysop u h' (h.ok.answer i))
theorem AS.push (h:AS o g ls W w S C k v evs) (i:Int) (hK: ∀x o' g' n' W',AS o' g' ls W' w (S.push i).1 C k v evs→K x g' n'):AC ZI [ptr ls 0,.int .i64 i] g n K:=
 JdB h.sys h.ok.wf.shp _ fun o' g' n' W' u h'=>hK _ _ _ _ _ (h.sysop u h' (h.ok.push i))
theorem AS.drainS (h:AS o g ls W w S C k v evs) (i:Int) (hK: ∀x o' g' n' W',AS o' g' ls W' w (S.drain i).1 C k v evs→K x g' n'):AC J6 [ptr ls 0,.int .i64 i] g n K:=
 Xet h.sys h.ok.wf.shp _ fun o' g' n' W' u h'=>hK _ _ _ _ _ (h.sysop u h' (h.ok.drainS i))
theorem AS.hear (h:AS o g ls W w S C k v evs) (hk:k<100000) (i:Int) (hK: ∀o' g' n' W',AS o' g' ls W' w (S.hear i).1 C (k+1) v evs→K (.tuple #[.agg (Xk (S.hear i).2.1).toArray,.int .i64 (S.hear i).2.2]) g' n'):AC Ju [ptr ls 0,.int .i64 i] g n K:=
 XdE h.sys (h.ok.wf.fit hk) _ fun o' g' n' W' u h'=>hK _ _ _ _ (h.sysop u h' (h.ok.hear hk i))
def pdN:Nat→Sys→Sys
 | 0,S=>S
 | j+1,S=>(pdN j S).pd (j:Nat)
theorem QhI (S:Sys):pdN 6 S=pd6 S:=rfl
theorem CSok.le (h:CSok C S k) {k':Nat} (hk:k≤k'):CSok C S k':=⟨h.ok,h.cn,h.wf.le hk,h.sn⟩
theorem Zhb {m:Ms} {K:Nat→List Value→G→Nat→Prop} (k: ∀g',Sub g g'→K n (Xk m) g' (n+1)):
  Qp [.int .i64 0,.int .i64 0,.bool false,.bool false,.int .u64 0,.int .u64 0,.int .u64 0,.int .u64 0,.int .u64 0,.int .u64 0,.int .u64 0,.int .u64 0] .exact g n fun l g1 n1=>Zm (.agg (Xk m).toArray) fun cg=>cg.length=12∧Js g1 l 0 cg fun g2=>Qn g2 l 0 12 fun c=>K l c g2 n1:=by
 change Qp (Xk Xm) .exact g n _
 intro hn
 have s1:=(Sub.refl g).new hn (some (.cells (Xk Xm) .exact))
 rw [Je]
 refine stM (m:=m) (z:=Xm) (Xa _ _ _) (fun x2=> ?_)
 refine ldM x2 (k _ (s1.upd_fresh _ hn))
set_option maxRecDepth 100000 in
theorem XcC {vp:Value} {us:List Int} {most:Nat} (hv:Sl XbH 1 g vp us) (hl:us.length≤4096) (hu: ∀u∈us,0≤u∧u<18446744073709551616) (hm:most≤1000)
  (hK: ∀vt va g' n',Sl XbH 1 g' vt (Qa9 (Jai most (Xau 0 2 us) wS0 []).2.2)→Sl QbI 5 g' va (Jai most (Xau 0 2 us) wS0 []).2.2→K (.tuple #[vt,va,.bool (!(Jai most (Xau 0 2 us) wS0 []).1.runs)]) g' n'):
  AC QK [vp,.int .i64 (most:Nat)] g n K:=by
 refine ACalls.fold Qc ?_
 rw [←QbR]
 simp only [Jba]
 refine JbW (fun g1 n1 s1=> ?_)
 refine Xcx plainC (img:=[]) Sl.nil (fun h=>absurd ⟨rfl,.inl rfl⟩ h) (fun _ _ ls o2 g2 n2 W2 s2 h2=> ?_)
 refine QY rfl (QY rfl ?_)
 refine Jcp (o:=o2) ((hv.mono s1).mono s2) h2.live (by decide) (by decide) hl (fun w g5 n5 s5 hfr c5=> ?_)
 have h5:=h2.mono s5
 refine QY rfl (QY rfl ?_)
 refine Xa7 (Xb rfl (Xa7 (Xb rfl (ZaE (Xb rfl (ZaE (Xb rfl ?_)))))))
 generalize hR:Jai most (Xau 0 2 us) wS0 []=R at hK
 have fin: ∀(t:Env) {o:Col Cl} {W:JaO} {S:Sys} {C:Cr} {k:Nat} {va:Value} {evs:List Evt} (g3:G) (n3:Nat),t 9=ptr w.lc 0→t 4= .slice none 0 0→t 5=va→AS o g3 ls W w S C k va evs→R=(C,S,evs)→evs.length<100000→J2 AC K t g3 n3:=by
  intro t o W S C k va evs g3 n3 t9 t4 t5 ha eR hlen
  subst eR
  have hva:Sl QbI 5 g3 va evs:=(ha.out.sl Xaw).mono (Z4 _ _)
  simp only [J2]
  refine QH (m:=evs.length) (Inv:=fun m t g9 n9=> ∃(j:Nat) (vt:Value),m+j=evs.length∧t 9=ptr w.lc 0∧t 4=vt∧t 5=va∧t 15= .int .i64 (j:Nat)∧Sub g3 g9∧OwnS XbH 1 g3 g9 vt (Qa9 (evs.take j))) ?_
   ⟨0,_,by omega,t9,t4,t5,rfl,Sub.refl _,OwnS.nil⟩
  rintro I m t g9 n9 ih ⟨j,vt,hmj,q9,q4,q5,q15,s9,ho⟩
  simp only [ZaU]
  rw [q5,q15]
  have hva9:=hva.mono s9
  refine hva9.len (Qck (Jg (fun hj=> ?_) (fun hj=> ?_)))
  ·have hj':j<evs.length:=by omega
   obtain ⟨e,he⟩: ∃e,evs[j]? =some e:=⟨_,List.getElem?_eq_getElem hj'⟩
   have htl:(Qa9 (evs.take j)).length≤j:=by
    unfold Qa9
    rw [List.length_map]
    exact Nat.le_trans (List.length_filter_le _ _) (by rw [List.length_take];omega)
   have hst:Qa9 (evs.take (j+1))=Qa9 (evs.take j)++(if e.kind=8 then [e.val] else []):=by
    unfold Qa9
    rw [take_add he,List.filter_append,List.map_append]
    congr 1
    by_cases h8:e.kind=8<;>simp [h8]
   have jn: ∀(t':Env) (g':G) (n':Nat) (vt':Value),t' 9=ptr w.lc 0→t' 4=vt'→t' 5=va→t' 15= .int .i64 (j:Nat)→Sub g3 g'→OwnS XbH 1 g3 g' vt' (Qa9 (evs.take (j+1)))→JZ AC K I t' g' n':=by
    intro t' g' n' vt' e9 e4 e5 e15 s' ho'
    simp only [JZ,e15]
    rw [Zg,QW (by omega)]
    exact ih (m-1) _ _ _ (by omega) ⟨j+1,vt',by omega,e9,e4,e5,rfl,s',ho'⟩
   refine hva9.idx Xaw he (fun l o' hat=> ?_)
   rw [Zb]
   refine hat.ld (i:=0) rfl (ZP (Jg (fun h8=> ?_) (fun h8=> ?_)))
   ·refine hva9.idx Xaw he (fun l2 o2' hat2=> ?_)
    rw [Zb]
    refine hat2.ld (i:=4) rfl ?_
    refine ⟨rfl,by decide,?_⟩
    rw [Xo]
    change Qp (XbH e.val) .exact g9 n9 _
    intro hn
    have s10:=(Sub.refl g9).new hn (some (.cells (XbH e.val) .exact))
    rw [q4]
    refine (ho.mono s10).append (s9.trans s10) (Sl.one (Xbt _) (Xa _ _ _)) XaS (by decide) (by rw [List.length_singleton];omega) (by rw [List.length_singleton];omega) (fun v' g11 n11 k1 k2 _ _=> ?_)
    refine jn _ _ _ v' q9 rfl q5 q15 k1 ?_
    rw [hst,if_pos h8];exact k2
   ·refine jn _ _ _ vt q9 q4 q5 q15 s9 ?_
    rw [hst,if_neg h8,List.append_nil];exact ho
  ·have hjl:evs.take j=evs:=List.take_of_length_le (by omega)
   rw [hjl] at ho
   simp only [JaR]
   have co9:=ha.co.mono s9
   show AC XR [t 9] g9 n9 _
   rw [q9]
   refine ZcG co9 (fun n10=>ZaK ?_)
   show Jc K (.tuple #[t 4,t 5,.bool (!C.runs)]) g9 n10
   rw [q4,q5]
   exact Ja (Sub.refl _) (hK _ _ _ _ ho.sl hva9)
 refine QH (m:=most) (Inv:=fun m t g9 n9=> ∃(i:Nat) (o:Col Cl) (W:JaO) (S:Sys) (C:Cr) (va:Value) (evs:List Evt),m+i=most∧t 7=ptr ls 0∧t 9=ptr w.lc 0∧t 1= .int .i64 (most:Nat)∧t 11= .int .i64 (i:Nat)∧t 4= .slice none 0 0∧t 5=va∧
  AS o g9 ls W w S C (5*i) va evs∧evs.length≤4*i∧Jai m C S evs=R) ?_
  ⟨0,o2,W2,_,_,_,[],by omega,rfl,rfl,rfl,rfl,rfl,rfl,⟨h5,c5,CSok.new Xbq (by decide) hl hu 0,OutH.nil⟩,by decide,hR⟩
 rintro I m t g9 n9 ih ⟨i,o,W,S,C,va,evs,hmi,q7,q9,q1,q11,q4,q5,ha,hlen,hRR⟩
 simp only [QaT]
 rw [q11,q1,q9,q7,q5]
 refine Qck (Jg (fun hj=> ?_) (fun hj=> ?_))
 ·obtain ⟨m',rfl⟩: ∃m',m=m'+1:=⟨m-1,by omega⟩
  refine ZcG ha.co (fun n10=>Zu (fun hr=> ?_) (fun hr=> ?_))
  ·have hRR':Jai m' (Zaq C S).1 (Zaq C S).2.1 (evs++(Zaq C S).2.2)=R:=by
    rw [←hRR]
    show _=(if C.runs=true then _ else _)
    rw [if_pos hr]
   have l1:=QeV C S
   refine ha.exec (by omega) (fun x1 o1 g1 n1 W1 a1 e1=> ?_)
   generalize hE:C.exec S=E at*
   refine a1.app e1 (by omega) (fun v2 g2 n2 a2=> ?_)
   have l2:=QfG E.1 E.2.1
   refine a2.drain (by omega) (fun x3 o3 g3 n3 W3 a3 e3=> ?_)
   generalize hD:E.1.drain E.2.1=D at*
   refine a3.app e3 (by rw [List.length_append];omega) (fun v4 g4 n4 a4=> ?_)
   refine a4.up 0 (fun x5 o5 g5 n5 W5 a5=> ?_)
   refine a5.answer 0 (fun x6 o6 g6 n6 W6 a6=> ?_)
   refine a6.hear (by omega) 0 (fun o7 g7 n7 W7 a7=> ?_)
   generalize hH:((D.2.1.up 0).1.answer 0).1.hear 0=H at*
   refine QY rfl (QY rfl (Zhb fun g8 s8=> ?_))
   have l3:=Jf5 D.1 H.2.1
   refine (a7.mono s8).hearC _ (fun x9 g9' n9' a9 e9=> ?_)
   refine a9.app e9 (by simp only [List.length_append];omega) (fun v10 g10 n10' a10=> ?_)
   have hround:Zaq C S=((D.1.hear H.2.1).1,pd6 H.1,E.2.2++D.2.2++(D.1.hear H.2.1).2):=by
    simp only [Zaq,JbU,Zdn,Jdo]
    rw [hE,hD,hH]
   rw [hround] at hRR'
   have inner: ∀(t':Env),t' 7=ptr ls 0→t' 9=ptr w.lc 0→t' 1= .int .i64 (most:Nat)→t' 11= .int .i64 (i:Nat)→t' 4= .slice none 0 0→t' 5=v10→t' 14= .int .i64 0→lfp (Zam AC K I) t' g10 n10':=by
    intro t' p7 p9 p1 p11 p4 p5 p14
    refine QH (m:=6) (Inv:=fun mm t' gg nn=> ∃(j:Nat) (o:Col Cl) (W:JaO),mm+j=6∧t' 7=ptr ls 0∧t' 9=ptr w.lc 0∧t' 1= .int .i64 (most:Nat)∧t' 11= .int .i64 (i:Nat)∧t' 4= .slice none 0 0∧t' 5=v10∧t' 14= .int .i64 (j:Nat)∧
     AS o gg ls W w (pdN j H.1) (D.1.hear H.2.1).1 (5*i+3+1+1) v10 (evs++E.2.2++D.2.2++(D.1.hear H.2.1).2)) ?_ ⟨0,_,_,rfl,p7,p9,p1,p11,p4,p5,p14,a10⟩
    rintro I2 mm t2 gg nn ih2 ⟨j,oo,WW,hmj,r7,r9,r1,r11,r4,r5,r14,aa⟩
    simp only [Zam]
    rw [r14,r7]
    refine Qck (Jg (fun hj6=> ?_) (fun hj6=> ?_))
    ·refine aa.push _ (fun x11 o11 g11 n11 W11 a11=> ?_)
     refine a11.drainS _ (fun x12 o12 g12 n12 W12 a12=> ?_)
     rw [Zg,QW (by omega)]
     exact ih2 (mm-1) _ _ _ (by omega) ⟨j+1,_,_,by omega,r7,r9,r1,r11,r4,r5,rfl,a12⟩
    ·have hj6':j=6:=by omega
     subst hj6'
     rw [QhI] at aa
     simp only [QaQ]
     show Jb .int .add (t2 11) (.int .i64 1) _
     rw [r11,Zg,QW (by omega)]
     refine ih m' _ _ _ (by omega) ⟨i+1,_,_,_,_,v10,_,by omega,r7,r9,r1,rfl,r4,r5,⟨aa.sys,aa.co,aa.ok.le (by omega),aa.out⟩,by simp only [List.length_append];omega,?_⟩
     rw [←hRR']
     simp only [List.append_assoc]
   exact inner _ q7 q9 q1 q11 q4 rfl rfl
  ·have e:R=(C,S,evs):=by
    rw [←hRR]
    show (if C.runs=true then _ else _)=_
    rw [if_neg (by rw [hr];decide)]
   exact fin _ _ _ q9 q4 q5 ha e (by omega)
 ·have e:R=(C,S,evs):=by
   rw [←hRR,show m=0 by omega]
   rfl
  exact fin _ _ _ q9 q4 q5 ha e (by omega)
end
end Go.Proofs.YtkdfaijmjmnhjaaGreat.Gen
namespace Go.Proofs.YtkdfaijmjmnhjaaGreat.Gen
open Go Go.Proofs.YtkdfaijmjmnhjaaGreat.Abs Go.RowKit
section
variable {a b c d e:Int} {K:List Value→Prop}
theorem fI0 (k:K (encI ⟨a,0,0,0,0⟩)):Qe (encI Jm) [(0,none,.int .i64 a)] K:=⟨rfl,by decide,k⟩
theorem Qg4 (k:K (encI ⟨a,b,0,0,0⟩)):Qe (encI Jm) [(0,none,.int .i64 a),(1,none,.int .i64 b)] K:=⟨rfl,by decide,rfl,Nat.le_of_ble_eq_true rfl,k⟩
theorem XgW (k:K (encI ⟨a,b,c,0,0⟩)):Qe (encI Jm) [(0,none,.int .i64 a),(1,none,.int .i64 b),(2,none,.int .i64 c)] K:=⟨rfl,by decide,rfl,Nat.le_of_ble_eq_true rfl,rfl,Nat.le_of_ble_eq_true rfl,k⟩
theorem ZfH (k:K (encI ⟨a,b,c,d,0⟩)):Qe (encI Jm) [(0,none,.int .i64 a),(1,none,.int .i64 b),(2,none,.int .i64 c),(3,none,.int .i64 d)] K:=⟨rfl,by decide,rfl,Nat.le_of_ble_eq_true rfl,rfl,Nat.le_of_ble_eq_true rfl,rfl,Nat.le_of_ble_eq_true rfl,k⟩
theorem JeK (k:K (encI ⟨a,b,0,0,e⟩)):Qe (encI Jm) [(0,none,.int .i64 a),(1,none,.int .i64 b),(4,none,.int .i64 e)] K:=⟨rfl,by decide,rfl,Nat.le_of_ble_eq_true rfl,rfl,Nat.le_of_ble_eq_true rfl,k⟩
theorem Zfz (k:K (encI ⟨a,b,c,0,e⟩)):Qe (encI Jm) [(0,none,.int .i64 a),(1,none,.int .i64 b),(2,none,.int .i64 c),(4,none,.int .i64 e)] K:=⟨rfl,by decide,rfl,Nat.le_of_ble_eq_true rfl,rfl,Nat.le_of_ble_eq_true rfl,rfl,Nat.le_of_ble_eq_true rfl,k⟩
def JaJ:Nat→List Ins→List (Nat×Option Nat×Value)
 | _,[]=>[]
 | j,i::r=>(j*5,some 5,.agg (encI i).toArray)::JaJ (j+1) r
theorem Xe2: ∀(is done:List Ins),K (((done++is).map encI).flatten)→Qe ((done.map encI).flatten++reps is.length (encI Jm)) (JaJ done.length is) K
 | [],done,k=>by
  simp only [JaJ,Xo]
  simpa [reps] using k
 | i::r,done,k=>by
  have hl:(done.map encI).flatten.length=done.length*5:=Jh encI 5 Z0 done
  have hr:(reps (i::r).length (encI Jm)).length=(r.length+1)*5:=by simp [reps,Z0]
  refine ⟨Z0 _,by rw [List.length_append,hl,hr];omega,?_⟩
  have e:splice ((done.map encI).flatten++reps (i::r).length (encI Jm)) (done.length*5) (encI i)=((done++[i]).map encI).flatten++reps r.length (encI Jm):=by
   unfold splice
   rw [List.take_left' hl,Z0,←hl,List.drop_append,List.drop_of_length_le (by omega),show (List.map encI done).flatten.length+5-(List.map encI done).flatten.length=5 by omega]
   have e2:reps (i::r).length (encI Jm)=encI Jm++reps r.length (encI Jm):=by simp [reps,List.replicate_succ]
   rw [e2,List.drop_left' (Z0 _)]
   simp
  have:=Xe2 r (done++[i]) (by simpa using k)
  rw [List.length_append,List.length_singleton] at this
  show Qe (splice _ (done.length*5) (encI i)) (JaJ (done.length+1) r) K
  rw [e];exact this
theorem ZdF {is:List Ins} (k:K ((is.map encI).flatten)):Qe (reps is.length (encI Jm)) (JaJ 0 is) K:=by
 have:=Xe2 (K:=K) is [] (by simpa using k)
 simpa using this
end
theorem Zf7 {is:List Ins} (h:is.all (fun i=>decide (0≤i.op)&&decide (i.op≤22))=true): ∀i∈is,0≤i.op∧i.op≤22:=by
 intro i hi
 have:=List.all_eq_true.1 h i hi
 simpa using this
end Go.Proofs.YtkdfaijmjmnhjaaGreat.Gen
namespace Go.Proofs.YtkdfaijmjmnhjaaGreat.Gen
open Go Go.Proofs.YtkdfaijmjmnhjaaGreat.Abs Go.RowKit
variable {g:G} {n:Nat}
def lpI (k:Int):List Ins:=[⟨1,1,0,0,k⟩,⟨1,2,0,0,1⟩,⟨1,3,0,0,0⟩,⟨21,1,0,0,0⟩,⟨3,1,1,2,0⟩,⟨19,1,3,0,3⟩,⟨20,3,2,0,8⟩,⟨21,2,0,0,0⟩,⟨22,0,0,0,0⟩]
def lpR (k:Int):Cr×Sys×List Evt:=Jai 400 (Xau 0 2 (codeF (lpI k))) wS0 []
def Qes (k:Int):List Int:=(List.range k.toNat).map (fun (i:Nat)=>k-(i:Int))
set_option maxRecDepth 100000 in
theorem Xhi: ∀k∈[(1:Int),2,3,4,5,6,7,8,9,10,11,12],(lpR k).1.runs=false∧Qa9 (lpR k).2.2=Qes k:=by decide +kernel
theorem ZhI {k:Int} (h0:1≤k) (h1:k≤12):(lpR k).1.runs=false∧Qa9 (lpR k).2.2=Qes k:=Xhi k (by
 have:k=1∨k=2∨k=3∨k=4∨k=5∨k=6∨k=7∨k=8∨k=9∨k=10∨k=11∨k=12:=by omega
 simpa using this)
set_option maxRecDepth 100000 in
theorem Jdv {x:Int} (hx:0≤x∧x≤255) {K:Cont} (hK: ∀n' g',K (.bool true) g' n'):AC X4 [.int .u8 x] g n K:=by
 refine ACalls.fold Qc ?_
 rw [←Xbg]
 simp only [ZaL,JM]
 rw [Xe (by omega) (by omega),JU]
 refine ⟨by decide,?_⟩
 rw [Int.tmod_eq_emod_of_nonneg hx.1,Zg,Xe (by omega) (by omega)]
 have hk0:1≤x%12+1:=by omega
 have hk1:x%12+1≤12:=by omega
 generalize x%12+1=k at hk0 hk1
 refine JeK (JeK (Qg4 (Qg4 (ZfH (Zfz (Zfz (Qg4 (fI0 ?_))))))))
 change Qe (reps (lpI k).length (encI Jm)) (JaJ 0 (lpI k)) _
 refine ZdF ?_
 intro hn
 have s1:=(Sub.refl g).new hn (some (.cells ((lpI k).map encI).flatten .exact))
 have hsl:Sl encI 5 (upd g n (some (.cells ((lpI k).map encI).flatten .exact))) (.slice (some ⟨n,0,none⟩) 9 9) (lpI k):=Rd.lit (Xa _ _ _) rfl
 generalize upd g n (some (.cells ((lpI k).map encI).flatten .exact))=g1 at s1 hsl
 have hop: ∀i∈lpI k,0≤i.op∧i.op≤22:=Zf7 rfl
 refine ZbP hsl hop (by show 9≤4096;decide) (fun v2 g2 n2 s2 o2=> ?_)
 have hlc:(codeF (lpI k)).length=9:=rfl
 refine XcC (most:=400) o2.sl (by rw [hlc];decide) (Qcl hop) (by decide) (fun vt va g3 n3 ht ha=> ?_)
 obtain ⟨r1,r2⟩:=ZhI hk0 hk1
 have e1:(Jai 400 (Xau 0 2 (codeF (lpI k))) wS0 []).1.runs=false:=r1
 have e2:Qa9 (Jai 400 (Xau 0 2 (codeF (lpI k))) wS0 []).2.2=Qes k:=r2
 rw [e1]
 rw [e2] at ht
 refine QY rfl (QY rfl (QY rfl (ZaK (Xb rfl ?_))))
 have hdl:(Qes k).length=k.toNat:=by unfold Qes;rw [List.length_map,List.length_range]
 refine ht.len (Xa7 (Xb (decide_eq_false (by rw [hdl];omega)) ?_))
 refine QH (m:=k.toNat) (Inv:=fun m t g4 n4=> ∃i:Nat,m+i=k.toNat∧g4=g3∧t 5=vt∧t 3= .int .i64 k∧t 8= .int .i64 (i:Nat)) ?_ ⟨0,by omega,rfl,rfl,rfl,rfl⟩
 rintro I m t g4 n4 ih ⟨i,hmi,rfl,q5,q3,q8⟩
 simp only [Jat]
 rw [q5,q3,q8]
 refine ht.len (Qck (Jg (fun hi=> ?_) (fun hi=> ?_)))
 ·have hi':i<k.toNat:=by omega
  have hget:(Qes k)[i]? =some (k-(i:Int)):=by
   unfold Qes
   rw [List.getElem?_map,List.getElem?_range hi']
   rfl
  refine ht.idx Xbt hget (fun l o hat=> ?_)
  rw [Zb]
  refine hat.ld (i:=0) rfl ?_
  rw [JM,JM,Qdq (by omega) (by omega),Qdq (by omega) (by omega),Qao,Qdq (by omega) (by omega)]
  refine Xa7 (Xb (decide_eq_false (fun h=>h rfl)) ?_)
  rw [Zg,QW (by omega)]
  exact ih (m-1) _ _ _ (by omega) ⟨i+1,by omega,rfl,q5,q3,rfl⟩
 ·exact Zak (fun g' n'=>Ja (Sub.refl _) (hK _ _))
end Go.Proofs.YtkdfaijmjmnhjaaGreat.Gen
namespace Go.Proofs.YtkdfaijmjmnhjaaGreat.Gen
open Go Go.Proofs.YtkdfaijmjmnhjaaGreat.Abs Go.RowKit
def Cr.execI (is:List Ins) (C:Cr) (S:Sys):Res:=if C.runs=false then (C,S,[]) else match is[C.place.toNat]? with
 | none=>C.trap S
 | some i=>C.doX S i
def Jfv (is:List Ins):Prop:= ∀i∈is,(0≤i.op∧i.op≤22)∧Jz i=true
theorem Xg9 {is:List Ins} {C:Cr} (hus:C.us=codeF is) (hg:Jfv is) (S:Sys):C.exec S=C.execI is S:=by
 unfold Cr.exec Cr.execI
 rw [hus]
 unfold codeF
 rw [List.getElem?_map]
 split
 ·rfl
 ·cases hi:is[C.place.toNat]? with
  | none=>rfl
  | some i=>
   obtain ⟨ho,hgi⟩:=hg i (List.mem_of_getElem? hi)
   have e:(Q9 i).1=Qat i:=by unfold Q9;rw [if_pos hgi]
   simp only [Option.map_some,e]
   rw [(Qa5 ho.1 ho.2 hgi).1]
def Za2 (is:List Ins) (C:Cr) (S:Sys):Res:=JbU (C.execI is S)
def JbK (is:List Ins):Nat→Cr→Sys→List Evt→Cr×Sys×List Evt
 | 0,C,S,l=>(C,S,l)
 | n+1,C,S,l=>if C.runs then JbK is n (Za2 is C S).1 (Za2 is C S).2.1 (l++(Za2 is C S).2.2) else (C,S,l)
theorem Qgc (C:Cr) (S:Sys):(Zaq C S).1.us=C.us:=by
 simp only [Zaq,JbU,Zdn,Jdo]
 rw [(Jd6 _ _).2.2,(ZdA _ _).2.2,(Zeb _ _).2.2]
theorem Xf8 {is:List Ins} (hg:Jfv is): ∀(n:Nat) (C:Cr) (S:Sys) (l:List Evt),C.us=codeF is→Jai n C S l=JbK is n C S l
 | 0,_,_,_,_=>rfl
 | n+1,C,S,l,h=>by
  have e:Zaq C S=Za2 is C S:=by unfold Zaq Za2;rw [Xg9 h hg]
  show (if C.runs=true then _ else _)=(if C.runs=true then _ else _)
  rw [←e,Xf8 hg n _ _ _ ((Qgc C S).trans h)]
end Go.Proofs.YtkdfaijmjmnhjaaGreat.Gen
namespace Go.Proofs.YtkdfaijmjmnhjaaGreat.Gen
open Go Go.Proofs.YtkdfaijmjmnhjaaGreat.Abs Go.RowKit
def itI (is:List Ins):Nat→Cr×Sys×List Evt→Cr×Sys×List Evt
 | 0,p=>p
 | j+1,p=>((Za2 is (itI is j p).1 (itI is j p).2.1).1,(Za2 is (itI is j p).1 (itI is j p).2.1).2.1,(itI is j p).2.2++(Za2 is (itI is j p).1 (itI is j p).2.1).2.2)
theorem Xgu (is:List Ins) (j:Nat) (p:Cr×Sys×List Evt):itI is (j+1) p=((Za2 is (itI is j p).1 (itI is j p).2.1).1,(Za2 is (itI is j p).1 (itI is j p).2.1).2.1,(itI is j p).2.2++(Za2 is (itI is j p).1 (itI is j p).2.1).2.2):=rfl
theorem XdA (is:List Ins) (n:Nat) (C:Cr) (S:Sys) (l:List Evt):JbK is (n+1) C S l=if C.runs then JbK is n (Za2 is C S).1 (Za2 is C S).2.1 (l++(Za2 is C S).2.2) else (C,S,l):=rfl
theorem Jgd {is:List Ins} (p:Cr×Sys×List Evt) (j:Nat): ∀n,(∀i,i<j→(itI is i p).1.runs=true)→JbK is (n+j) p.1 p.2.1 p.2.2=JbK is n (itI is j p).1 (itI is j p).2.1 (itI is j p).2.2:=by
 induction j with
 | zero=>intro n _;rfl
 | succ j ih=>
  intro n h
  have e:=ih (n+1) (fun i hi=>h i (by omega))
  rw [show n+(j+1)=n+1+j by omega,e,XdA,if_pos (h j (by omega)),Xgu]
def lkI (a b c:Int):List Ins:=[⟨1,1,0,0,a⟩,⟨1,6,0,0,128⟩,⟨9,1,6,0,0⟩,⟨1,2,0,0,b⟩,⟨1,3,0,0,c⟩,⟨10,2,6,3,0⟩,⟨21,2,0,0,0⟩,⟨11,4,6,3,0⟩,⟨21,4,0,0,0⟩,⟨8,5,6,0,0⟩,⟨21,5,0,0,0⟩,⟨22,0,0,0,0⟩]
section
variable (a b c:Int)
def lkP:Cr×Sys×List Evt:=(Xau 0 2 (codeF (lkI a b c)),wS0,[])
def lk5:Cr×Sys×List Evt:=itI (lkI a b c) 5 (lkP a b c)
def lkL:Sys×Int×Bool:=(((lk5 a b c).2.1.reach 0 2).1.load 0 2 0)
def lkX:Res:=(((lk5 a b c).1.setR 2 (lkL a b c).2.1).next,((lkL a b c).1.store 0 2 0 ((lk5 a b c).1.reg 3)).1,[⟨4,0,2,0,(lkL a b c).2.1⟩,⟨3,0,2,0,(lk5 a b c).1.reg 3⟩])
def lkY:Res:=(((lk5 a b c).1.setR 2 (lkL a b c).2.1).next,(lkL a b c).1,[⟨4,0,2,0,(lkL a b c).2.1⟩])
theorem Xhk:(lkL a b c).2.1=IntKind.u64.wrap a:=by kernel_rfl
theorem Jg9:(lk5 a b c).1.reg 2=IntKind.u64.wrap b:=by kernel_rfl
theorem QhA:(itI (lkI a b c) 0 (lkP a b c)).1.runs=true:=by kernel_rfl
theorem XhC:(itI (lkI a b c) 1 (lkP a b c)).1.runs=true:=by kernel_rfl
theorem Zhz:(itI (lkI a b c) 2 (lkP a b c)).1.runs=true:=by kernel_rfl
theorem QhB:(itI (lkI a b c) 3 (lkP a b c)).1.runs=true:=by kernel_rfl
theorem QhD:(itI (lkI a b c) 4 (lkP a b c)).1.runs=true:=by kernel_rfl
theorem Jhu:(lk5 a b c).1.runs=true:=by kernel_rfl
theorem Qhz:(lk5 a b c).1.execI (lkI a b c) (lk5 a b c).2.1=if (lkL a b c).2.1=(lk5 a b c).1.reg 2 then lkX a b c else lkY a b c:=by kernel_rfl
def lkF (R:Res):Cr×Sys×List Evt:=JbK (lkI a b c) 394 (JbU R).1 (JbU R).2.1 ((lk5 a b c).2.2++(JbU R).2.2)
theorem ZgL:(lkF a b c (lkX a b c)).1.runs=false:=by kernel_rfl
theorem QgV:(lkF a b c (lkY a b c)).1.runs=false:=by kernel_rfl
theorem Zgx:Qa9 (lkF a b c (lkX a b c)).2.2=[IntKind.u64.wrap a,IntKind.u64.wrap c,IntKind.u64.wrap (IntKind.u64.wrap c+IntKind.u64.wrap c)]:=by kernel_rfl
theorem Xgi:Qa9 (lkF a b c (lkY a b c)).2.2=[IntKind.u64.wrap a,IntKind.u64.wrap a,IntKind.u64.wrap (IntKind.u64.wrap a+IntKind.u64.wrap c)]:=by kernel_rfl
end
end Go.Proofs.YtkdfaijmjmnhjaaGreat.Gen
namespace Go.Proofs.YtkdfaijmjmnhjaaGreat.Gen
open Go Go.Proofs.YtkdfaijmjmnhjaaGreat.Abs Go.RowKit
variable {g:G} {n:Nat}
theorem Zft {v w:Value} {xs ys:List Int} (hv:Sl XbH 1 g v xs) (hw:Sl XbH 1 g w ys) (hlen:xs.length<1000000) {K:Cont}
  (hK: ∀n',K (.bool (decide (xs=ys))) g n'):AC Jaq [v,w] g n K:=by
 refine ACalls.fold Qc ?_
 rw [←Jb2]
 simp only [Qbn]
 refine hv.len (hw.len ?_)
 simp only [Q6,Qh,decide_eq_true_eq,decide_eq_false_iff_not]
 refine ⟨fun h=>Ja (Sub.refl _) ?_,fun h=> ?_⟩
 ·have:xs≠ys:=fun e=>h (by rw [e])
  simpa [this] using hK n
 have hl:xs.length=ys.length:=by omega
 refine QH (fun m t g' n'=>g'=g∧ ∃i:Nat,m=xs.length-i∧i≤xs.length∧t 0=v∧t 1=w∧t 5= .int .i64 i∧xs.take i=ys.take i) ?_
  (m:=xs.length) ⟨rfl,0,by simp,by simp,rfl,rfl,rfl,rfl⟩
 rintro I m t g1 n1 hI ⟨rfl,i,hm,hi,h0,h1,h5,hp⟩
 simp only [XaV,h0,h1,h5]
 refine hv.len ?_
 simp only [Qk,Qh,decide_eq_true_eq,decide_eq_false_iff_not]
 refine ⟨fun hlt=> ?_,fun hge=> ?_⟩
 ·have hlt:i<xs.length:=by omega
  refine hv.idx Xbt (List.getElem?_eq_getElem hlt) (fun l o ha=> ?_)
  simp only [Zb]
  refine ha.ld (i:=0) rfl ?_
  refine hw.idx Xbt (List.getElem?_eq_getElem (hl▸hlt)) (fun l o ha=> ?_)
  simp only [Zb]
  refine ha.ld (i:=0) rfl ?_
  simp only [Q6,Qh,decide_eq_true_eq,decide_eq_false_iff_not,Zg]
  refine ⟨fun h=>Ja (Sub.refl _) ?_,fun h=> ?_⟩
  ·have:xs≠ys:=fun e=>h (by subst e;rfl)
   simpa [this] using hK n1
  ·rw [QW (by omega)]
   refine hI (xs.length-(i+1)) _ _ _ (by omega) ⟨rfl,i+1,rfl,by omega,h0,h1,rfl,?_⟩
   rw [List.take_add_one,List.take_add_one,List.getElem?_eq_getElem hlt,List.getElem?_eq_getElem (hl▸hlt),hp]
   have:xs[i]=ys[i]:=Classical.byContradiction h
   simp [this]
 ·have:i=xs.length:=by omega
  subst this
  rw [List.take_length,hl,List.take_length] at hp
  exact Ja (Sub.refl _) (by simpa [hp] using hK n1)
end Go.Proofs.YtkdfaijmjmnhjaaGreat.Gen
namespace Go.Proofs.YtkdfaijmjmnhjaaGreat.Gen
open Go Go.Proofs.YtkdfaijmjmnhjaaGreat.Abs Go.RowKit
variable {g:G} {n:Nat}
theorem Zeu {r a:Int} (hr:r=1∨r=2∨r=3∨r=6) (ha: -2147483648≤a∧a≤2147483647):Jz ⟨1,r,0,0,a⟩=true:=by
 have e:Ja0 ⟨1,r,0,0,a⟩=true:=by
  unfold Ja0
  rw [if_pos (show JaD 1 73=true by decide)]
  simp [ha]
 unfold Jz
 rw [e]
 rcases hr with rfl|rfl|rfl|rfl
 ·show (ZR 1 (JaD 1 65)&&(ZR 0 (JaD 1 66)&&(ZR 0 (JaD 1 67)&&true)))=true;decide
 ·show (ZR 2 (JaD 1 65)&&(ZR 0 (JaD 1 66)&&(ZR 0 (JaD 1 67)&&true)))=true;decide
 ·show (ZR 3 (JaD 1 65)&&(ZR 0 (JaD 1 66)&&(ZR 0 (JaD 1 67)&&true)))=true;decide
 ·show (ZR 6 (JaD 1 65)&&(ZR 0 (JaD 1 66)&&(ZR 0 (JaD 1 67)&&true)))=true;decide
theorem ZgI {a b c:Int} (ha:0≤a∧a≤255) (hb:0≤b∧b≤255) (hc:0≤c∧c≤255):Jfv (lkI a b c):=by
 intro i hi
 simp only [lkI,List.mem_cons,List.not_mem_nil,or_false] at hi
 rcases hi with rfl|rfl|rfl|rfl|rfl|rfl|rfl|rfl|rfl|rfl|rfl|rfl
 ·exact ⟨(show (0:Int)≤1∧(1:Int)≤22 by decide),Zeu (.inl rfl) (by omega)⟩
 ·exact ⟨by decide,by decide⟩
 ·exact ⟨by decide,by decide⟩
 ·exact ⟨(show (0:Int)≤1∧(1:Int)≤22 by decide),Zeu (.inr (.inl rfl)) (by omega)⟩
 ·exact ⟨(show (0:Int)≤1∧(1:Int)≤22 by decide),Zeu (.inr (.inr (.inl rfl))) (by omega)⟩
 ·exact ⟨by decide,by decide⟩
 ·exact ⟨by decide,by decide⟩
 ·exact ⟨by decide,by decide⟩
 ·exact ⟨by decide,by decide⟩
 ·exact ⟨by decide,by decide⟩
 ·exact ⟨by decide,by decide⟩
 ·exact ⟨by decide,by decide⟩
theorem Qhq {a b c:Int} (ha:0≤a∧a≤255) (hb:0≤b∧b≤255) (hc:0≤c∧c≤255):
  (Jai 400 (Xau 0 2 (codeF (lkI a b c))) wS0 []).1.runs=false∧Qa9 (Jai 400 (Xau 0 2 (codeF (lkI a b c))) wS0 []).2.2=[a,if a=b then c else a,(if a=b then c else a)+c]:=by
 rw [Xf8 (ZgI ha hb hc) 400 _ _ _ rfl]
 have h1:JbK (lkI a b c) (395+5) (lkP a b c).1 (lkP a b c).2.1 (lkP a b c).2.2=JbK (lkI a b c) 395 (itI (lkI a b c) 5 (lkP a b c)).1 (itI (lkI a b c) 5 (lkP a b c)).2.1 (itI (lkI a b c) 5 (lkP a b c)).2.2:=
  Jgd (lkP a b c) 5 395 (fun i hi=>by
   match i,hi with
   | 0,_=>exact QhA a b c
   | 1,_=>exact XhC a b c
   | 2,_=>exact Zhz a b c
   | 3,_=>exact QhB a b c
   | 4,_=>exact QhD a b c)
 have h2:JbK (lkI a b c) 400 (Xau 0 2 (codeF (lkI a b c))) wS0 []=JbK (lkI a b c) 395 (lk5 a b c).1 (lk5 a b c).2.1 (lk5 a b c).2.2:=h1
 rw [h2,XdA,if_pos (Jhu a b c)]
 have hw: ∀x:Int,0≤x→x≤510→IntKind.u64.wrap x=x:=fun x h0 h1=>Qdq h0 (by omega)
 unfold Za2
 rw [Qhz,Xhk,Jg9,hw a ha.1 (by omega),hw b hb.1 (by omega)]
 by_cases hab:a=b
 ·rw [if_pos hab,if_pos hab]
  have e1:=ZgL a b c
  have e2:=Zgx a b c
  unfold lkF at e1 e2
  rw [hw a ha.1 (by omega),hw c hc.1 (by omega),hw (c+c) (by omega) (by omega)] at e2
  exact ⟨e1,e2⟩
 ·rw [if_neg hab,if_neg hab]
  have e1:=QgV a b c
  have e2:=Xgi a b c
  unfold lkF at e1 e2
  rw [hw a ha.1 (by omega),hw c hc.1 (by omega),hw (a+c) (by omega) (by omega)] at e2
  exact ⟨e1,e2⟩
set_option maxRecDepth 100000 in
theorem Zdv {a b c:Int} (ha:0≤a∧a≤255) (hb:0≤b∧b≤255) (hc:0≤c∧c≤255) {K:Cont} (hK: ∀n' g',K (.bool true) g' n'):AC J3 [.int .u8 a,.int .u8 b,.int .u8 c] g n K:=by
 refine ACalls.fold Qc ?_
 rw [←Qbe]
 simp only [XaK,JM]
 rw [Xe (a:=a) (by omega) (by omega),Xe (a:=b) (by omega) (by omega),Xe (a:=c) (by omega) (by omega)]
 refine JeK (JeK (XgW (JeK (JeK (ZfH (Qg4 (ZfH (Qg4 (XgW (Qg4 (fI0 ?_)))))))))))
 change Qe (reps (lkI a b c).length (encI Jm)) (JaJ 0 (lkI a b c)) _
 refine ZdF ?_
 intro hn
 have s1:=(Sub.refl g).new hn (some (.cells ((lkI a b c).map encI).flatten .exact))
 have hsl:Sl encI 5 (upd g n (some (.cells ((lkI a b c).map encI).flatten .exact))) (.slice (some ⟨n,0,none⟩) 12 12) (lkI a b c):=Rd.lit (Xa _ _ _) rfl
 generalize upd g n (some (.cells ((lkI a b c).map encI).flatten .exact))=g1 at s1 hsl
 have hop: ∀i∈lkI a b c,0≤i.op∧i.op≤22:=Zf7 rfl
 refine ZbP hsl hop (by show 12≤4096;decide) (fun v2 g2 n2 s2 o2=> ?_)
 have hlc:(codeF (lkI a b c)).length=12:=rfl
 refine XcC (most:=400) o2.sl (by rw [hlc];decide) (Qcl hop) (by decide) (fun vt va g3 n3 ht hva=> ?_)
 obtain ⟨e1,e2⟩:=Qhq ha hb hc
 rw [e1]
 rw [e2] at ht
 refine QY rfl (QY rfl (QY rfl ?_))
 have hw: ∀x:Int,0≤x→x≤510→IntKind.u64.wrap x=x:=fun x h0 h1=>Qdq h0 (by omega)
 rw [hw a ha.1 (by omega),hw c hc.1 (by omega)]
 have j: ∀(t:Env) (mid:Int),mid=(if a=b then c else a)→t 10= .bool true→t 0= .int .u8 a→t 2= .int .u8 c→t 11= .int .u64 mid→t 8=vt→JI AC K t g3 n3:=by
  intro t mid hmid t10 t0 t2 t11 t8
  have hm0:0≤mid∧mid≤255:=by rw [hmid];split<;>omega
  simp only [JI,t10,t0,t2,t11,t8,JM]
  refine Xc rfl ?_
  rw [hw a ha.1 (by omega),hw c hc.1 (by omega),Zg,hw (mid+c) (by omega) (by omega)]
  refine ⟨rfl,by decide,rfl,Nat.le_of_ble_eq_true rfl,rfl,Nat.le_of_ble_eq_true rfl,?_⟩
  rw [Xo]
  change Qp (([a,mid,mid+c]:List Int).map XbH).flatten .exact g3 n3 _
  intro hn4
  have s4:=(Sub.refl g3).new hn4 (some (.cells (([a,mid,mid+c]:List Int).map XbH).flatten .exact))
  have hw4:Sl XbH 1 (upd g3 n3 (some (.cells (([a,mid,mid+c]:List Int).map XbH).flatten .exact))) (.slice (some ⟨n3,0,none⟩) 3 3) [a,mid,mid+c]:=Rd.lit (Xa _ _ _) rfl
  refine Zft (ht.mono s4) hw4 (by show 3<1000000;decide) (fun n5=> ?_)
  rw [←hmid,decide_eq_true rfl]
  refine Xc rfl ?_
  exact Zak (fun g' n'=>Ja (Sub.refl _) (hK _ _))
 refine ZP (Jg (fun hab=> ?_) (fun hab=> ?_))
 ·exact j _ c (by rw [if_pos hab]) rfl rfl rfl rfl rfl
 ·exact j _ a (by rw [if_neg hab]) rfl rfl rfl rfl rfl
end Go.Proofs.YtkdfaijmjmnhjaaGreat.Gen
namespace Go.Proofs.YtkdfaijmjmnhjaaGreat.Gen
open Go Go.Proofs.YtkdfaijmjmnhjaaGreat.Abs Go.RowKit
theorem Xg2:(wS0.up 0).1=wS0:=by kernel_rfl
theorem ZeF:(wS0.answer 0).1=wS0:=by kernel_rfl
theorem QfZ:wS0.hear 0=(wS0,Xm,14):=by kernel_rfl
theorem JgO:pd6 wS0=wS0:=by kernel_rfl
theorem QcI {C C':Cr} {evs:List Evt} (h:C.exec wS0=(C',wS0,evs)) (hb:C'.b=[]):Zaq C wS0=(C',wS0,evs):=by
 have hd:C'.drain wS0=(C',wS0,[]):=by unfold Cr.drain;rw [hb]
 have hh:C'.hear Xm=(C',[]):=by
  unfold Cr.hear
  rw [if_neg]
  rintro ⟨h,_⟩
  exact absurd h (by decide)
 simp only [Zaq,JbU,Zdn,Jdo]
 rw [h]
 simp only
 rw [hd]
 simp only
 rw [Xg2,ZeF,QfZ]
 simp only
 rw [hh,JgO]
 simp
theorem Jbs (n:Nat) (C:Cr) (S:Sys) (l:List Evt):Jai (n+1) C S l=if C.runs then Jai n (Zaq C S).1 (Zaq C S).2.1 (l++(Zaq C S).2.2) else (C,S,l):=rfl
theorem Jfi {n:Nat} {C:Cr} {S:Sys} {l:List Evt} (h:C.runs=false):Jai n C S l=(C,S,l):=by
 cases n with
 | zero=>rfl
 | succ n=>rw [Jbs,if_neg (by rw [h];decide)]
def stopped (R:Cr×Sys×List Evt):Prop:=R.1.runs=false∧R.2.2=[⟨10,0,0,0,0⟩]
theorem Jdx {n:Nat} {C:Cr} (h:C.runs=true) (hb:C.b=[]) (hid:C.id=0) (he:C.exec wS0=C.trap wS0):stopped (Jai (n+1) C wS0 []):=by
 have hr:Zaq C wS0=({ C with runs:=false },wS0,[C.ev 10 0 0 0]):=QcI he hb
 rw [Jbs,if_pos h,hr,Jfi rfl]
 refine ⟨rfl,?_⟩
 show []++[C.ev 10 0 0 0]=_
 unfold Cr.ev
 rw [hid];rfl
def at_ (us:List Int) (j:Nat):Cr:={ Xau 0 2 us with place:=(j:Nat) }
theorem Jg4:decode 0=some ⟨0,0,0,0,0⟩:=by decide
theorem Zgu {us:List Int} {j:Nat} (h:us[j]? =some 0):Zaq (at_ us j) wS0=(at_ us (j+1),wS0,[]):=by
 refine QcI ?_ rfl
 unfold Cr.exec
 rw [if_neg (by show ¬true=false;decide)]
 have hp:(at_ us j).place.toNat=j:=by show ((j:Nat):Int).toNat=j;omega
 have hu:(at_ us j).us[(at_ us j).place.toNat]? =some 0:=by rw [hp];exact h
 rw [hu]
 simp only
 rw [Jg4]
 simp only
 unfold Cr.doX
 rw [if_pos rfl]
 rfl
theorem Xdz {us:List Int} (n:Nat) (k:Nat):(∀j,j<k→us[j]? =some 0)→Jai (n+k) (at_ us 0) wS0 []=Jai n (at_ us k) wS0 []:=by
 induction k generalizing n with
 | zero=>intro _;rfl
 | succ k ih=>
  intro h
  rw [show n+(k+1)=n+1+k by omega,ih (n+1) (fun j hj=>h j (by omega)),Jbs,if_pos (show (at_ us k).runs=true from rfl),Zgu (h k (by omega))]
  rfl
theorem at0 (us:List Int):at_ us 0=Xau 0 2 us:=rfl
theorem XfE {us:List Int} {k:Nat} (hn: ∀j,j<k→us[j]? =some 0) (hk:k≤20) (ht:us[k]? =none∨ ∃u,us[k]? =some u∧decode u=none):stopped (Jai 100 (Xau 0 2 us) wS0 []):=by
 rw [←at0,show 100=(99-k)+1+k by omega,Xdz _ k hn]
 refine Jdx rfl rfl rfl ?_
 unfold Cr.exec
 rw [if_neg (by show ¬true=false;decide)]
 have hp:(at_ us k).place.toNat=k:=by show ((k:Nat):Int).toNat=k;omega
 have hu:(at_ us k).us[(at_ us k).place.toNat]? =us[k]? :=by rw [hp];rfl
 rw [hu]
 rcases ht with e|⟨u,e,hd⟩
 ·rw [e]
 ·rw [e];simp only;rw [hd]
theorem Xd2 {a:Int} (ha:0≤a∧a≤65535):Jz ⟨1,1,0,0,a⟩=true:=by
 have e:Ja0 ⟨1,1,0,0,a⟩=true:=by
  unfold Ja0
  rw [if_pos (show JaD 1 73=true by decide)]
  simp;omega
 unfold Jz
 rw [e]
 show (ZR 1 (JaD 1 65)&&(ZR 0 (JaD 1 66)&&(ZR 0 (JaD 1 67)&&true)))=true
 decide
theorem Xf3 {us:List Int} {k:Nat} {a:Int} (ha:0≤a∧a≤65535) (hbad: ¬(a%8=0∧a<384)) (hn: ∀j,j<k→us[j]? =some 0) (hk:k≤20) (h1:us[k]? =some (Qat ⟨1,1,0,0,a⟩)) (h2:us[k+1]? =some (Qat ⟨9,2,1,0,0⟩)):
  stopped (Jai 100 (Xau 0 2 us) wS0 []):=by
 rw [←at0,show 100=(98-k)+1+1+k by omega,Xdz _ k hn]
 have hw:IntKind.u64.wrap a=a:=Qdq ha.1 (by omega)
 have hp:(at_ us k).place.toNat=k:=by show ((k:Nat):Int).toNat=k;omega
 have hd1:decode (Qat ⟨1,1,0,0,a⟩)=some ⟨1,1,0,0,a⟩:=(Qa5 (by show (0:Int)≤1;decide) (by show (1:Int)≤22;decide) (Xd2 ha)).1
 have hd2:decode (Qat ⟨9,2,1,0,0⟩)=some ⟨9,2,1,0,0⟩:=(Qa5 (by decide) (by decide) (by decide)).1
 have e1:(at_ us k).exec wS0=(((at_ us k).setR 1 a).next,wS0,[]):=by
  unfold Cr.exec
  rw [if_neg (by show ¬true=false;decide)]
  have hu:(at_ us k).us[(at_ us k).place.toNat]? =some (Qat ⟨1,1,0,0,a⟩):=by rw [hp];exact h1
  rw [hu]
  simp only
  rw [hd1]
  simp only
  unfold Cr.doX
  rw [if_neg (by show ¬(1:Int)=0;decide),if_pos rfl,hw]
 rw [Jbs,if_pos (show (at_ us k).runs=true from rfl),QcI e1 rfl]
 show stopped (Jai ((98-k)+1) ((at_ us k).setR 1 a).next wS0 [])
 refine Jdx rfl rfl rfl ?_
 have hp2:((at_ us k).setR 1 a).next.place.toNat=k+1:=by show (((k:Nat):Int)+1).toNat=k+1;omega
 unfold Cr.exec
 rw [if_neg (by show ¬true=false;decide)]
 have hu:((at_ us k).setR 1 a).next.us[((at_ us k).setR 1 a).next.place.toNat]? =some (Qat ⟨9,2,1,0,0⟩):=by rw [hp2];exact h2
 rw [hu]
 simp only
 rw [hd2]
 simp only
 have hat:((at_ us k).setR 1 a).next.at wS0.c.lines ⟨9,2,1,0,0⟩=none:=by
  have hr:((at_ us k).setR 1 a).next.reg 1=a:=rfl
  unfold Cr.at
  show addrOf 6 (Jg8 (((at_ us k).setR 1 a).next.reg 1) 0)=none
  rw [hr]
  unfold Jg8 addrOf
  rw [show IntKind.u64.wrap 0=0 from rfl,Int.add_zero,hw,if_neg (fun h=>hbad ⟨h.1,by omega⟩)]
 unfold Cr.doX
 rw [if_neg (by show ¬(9:Int)=0;decide),if_neg (by show ¬(9:Int)=1;decide),if_neg (by show ¬(9:Int)=8;decide),if_pos (.inl rfl)]
 unfold Cr.putX
 rw [hat]
end Go.Proofs.YtkdfaijmjmnhjaaGreat.Gen
namespace Go.Proofs.YtkdfaijmjmnhjaaGreat.Gen
open Go Go.Proofs.YtkdfaijmjmnhjaaGreat.Abs Go.RowKit
variable {g:G} {n:Nat}
section
variable {K:Cont}
theorem XfU {i:Ins} (h1:22<i.op) (hK: ∀g' n',Sub g g'→K (.bool false) g' n'):AC Q5 [.agg (encI i).toArray] g n K:=by
 refine ACalls.fold Qc ?_
 rw [←QaW]
 simp only [XaM,Je]
 intro hn
 have hu:Sub g (upd g n (some (.cells (encI i) .exact))):=(Sub.refl g).new hn _
 have hb:upd g n (some (.cells (encI i) .exact)) n=some (.cells (encI i) .exact):=Xa _ _ _
 refine Qb hb rfl (Qck (Jg (fun h=>by omega) (fun _=> ?_)))
 refine Qb hb rfl (Je1 (Jg (fun _=>Ja (Sub.refl _) (hK _ _ hu)) (fun h=>absurd h1 h)))
theorem Jez {i:Ins} (h1:22<i.op) (hK: ∀g' n',Sub g g'→K (.tuple #[.int .u64 0,.int .i64 11]) g' n'):AC XG [.agg (encI i).toArray] g n K:=by
 refine ACalls.fold Qc ?_
 rw [←QaK]
 simp only [XaB,Je]
 intro hn
 have hu:Sub g (upd g n (some (.cells (encI i) .exact))):=(Sub.refl g).new hn _
 have hb:upd g n (some (.cells (encI i) .exact)) n=some (.cells (encI i) .exact):=Xa _ _ _
 generalize upd g n (some (.cells (encI i) .exact))=g1 at hu hb
 refine ldI hb (XfU h1 fun g2 n2 hs2=> ?_)
 exact ZaK (Xc rfl (Ja (Sub.refl _) (hK _ _ (hu.trans hs2))))
theorem QeW {u:Int} (h0:0≤u) (h1:u<18446744073709551616):Qat (Xck u)=u↔u%4294967296/1048576=0:=by
 have hw:Qat (Xck u)=u%256+u/256%16*256+u/4096%16*4096+u/65536%16*65536+(IntKind.i64.wrap u/4294967296%4294967296)*4294967296:=rfl
 rw [hw,Qhu]
 split<;>omega
theorem Xgq {u:Int} (h0:0≤u) (h1:u<18446744073709551616):(Xck u).imm=if 2147483648≤u/4294967296 then u/4294967296-4294967296 else u/4294967296:=by
 show IntKind.i64.wrap u/4294967296=_
 rw [Qhu]
 split<;>split<;>omega
theorem Zem {u:Int} (h0:0≤u) (h1:u<18446744073709551616) (hK: ∀g' n' i e,Sub g g'→(e=0↔(decode u).isSome=true)→K (.tuple #[.agg (encI i).toArray,.int .i64 e]) g' n'):AC Xag [.int .u64 u] g n K:=by
 refine ACalls.fold Qc ?_
 rw [←ZbG]
 simp only [Qa0]
 change Qp (encI Jm) .exact g n _
 intro hn
 have s1:Sub g (upd g n (some (.cells (encI Jm) .exact))):=(Sub.refl g).new hn _
 have x1:upd g n (some (.cells (encI Jm) .exact)) n=some (.cells (encI Jm) .exact):=Xa _ _ _
 generalize upd g n (some (.cells (encI Jm) .exact))=g1 at s1 x1
 refine Qgg (m:=32) (by decide) rfl ?_
 rw [show (2:Int)^32=4294967296 from rfl,JM,Xe (by omega) (by omega)]
 have j: ∀(t:Env) (m:Nat),t 0= .int .u64 u→t 2=ptr n 0→t 4= .int .i64 (Xck u).imm→XV AC K t g1 m:=by
  intro t m t0 t2 t4
  simp only [XV,t0,t2,t4]
  rw [JU]
  refine ⟨by decide,?_⟩
  rw [Int.tmod_eq_emod_of_nonneg h0,JM,Xe (by omega) (by omega)]
  refine Qgg (m:=8) (by decide) rfl ?_
  rw [JU]
  refine ⟨by decide,?_⟩
  rw [show (2:Int)^8=256 from rfl,Int.tmod_eq_emod_of_nonneg (by omega),JM,Xe (by omega) (by omega)]
  refine Qgg (m:=12) (by decide) rfl ?_
  rw [JU]
  refine ⟨by decide,?_⟩
  rw [show (2:Int)^12=4096 from rfl,Int.tmod_eq_emod_of_nonneg (by omega),JM,Xe (by omega) (by omega)]
  refine Qgg (m:=16) (by decide) rfl ?_
  rw [JU]
  refine ⟨by decide,?_⟩
  rw [show (2:Int)^16=65536 from rfl,Int.tmod_eq_emod_of_nonneg (by omega),JM,Xe (by omega) (by omega)]
  refine QfP ?_
  change Qp (encI Jm) .exact g1 m _
  intro hn2
  have hne:n≠m:=fun e=>by rw [e,hn2] at x1;cases x1
  have s2:=s1.trans ((Sub.refl g1).new hn2 (some (.cells (encI Jm) .exact)))
  have y2:=((Sub.refl g1).new hn2 (some (.cells (encI Jm) .exact))).live x1
  rw [Je]
  refine stI (e:=Xck u) (z:=Jm) (Xa _ _ _) (fun x3=> ?_)
  have s3:=s2.upd_fresh (some (.cells (encI (Xck u)) .exact)) (s1.none hn2)
  have y3:upd (upd g1 m (some (.cells (encI Jm) .exact))) m (some (.cells (encI (Xck u)) .exact)) n=some (.cells (encI Jm) .exact):=by rw [Zd _ _ hne];exact y2
  generalize upd (upd g1 m (some (.cells (encI Jm) .exact))) m (some (.cells (encI (Xck u)) .exact))=g3 at s3 x3 y3
  refine ldI x3 ?_
  have bad: ∀(g4:G) (m':Nat),Sub g3 g4→(decode u).isSome=false→Qe (encI Jm) [] fun c44=>Qd (ptr n 0) fun lg5 og5=>Zm (.agg c44.toArray) fun cg5=>cg5.length=5∧Js g4 lg5 og5 cg5 fun g5=>Qd (ptr n 0) fun lr0 or0=>Qn g5 lr0 or0 5 fun r0=>Jc K (.tuple #[(.agg r0.toArray),(.int .i64 11)]) g5 m':=by
   intro g4 m' s4 hd
   rw [Xo]
   simp only [Zb,Je]
   refine stI (e:=Jm) (s4.live y3) (fun y5=>ldI y5 ?_)
   exact Ja (Sub.refl _) (hK _ _ _ 11 ((s3.trans s4).upd_fresh _ hn) ⟨fun h=>absurd h (by decide),fun h=>by rw [hd] at h;cases h⟩)
  have fin: ∀(w e:Int),(e=0→Jz (Xck u)=true∧(Xck u).op≤22∧w=Qat (Xck u))→(e≠0→decode u=none)→ ∀g4 m',Sub g3 g4→Zc (.tuple #[.int .u64 w,.int .i64 e]) 0 fun v35=>Zc (.tuple #[.int .u64 w,.int .i64 e]) 1 fun v36=>Jb .int .neq v36 (.int .i64 0) fun v38=>Qa v38 (Qe (encI Jm) [] fun c44=>Qd (ptr n 0) fun lg5 og5=>Zm (.agg c44.toArray) fun cg5=>cg5.length=5∧Js g4 lg5 og5 cg5 fun g5=>Qd (ptr n 0) fun lr0 or0=>Qn g5 lr0 or0 5 fun r0=>Jc K (.tuple #[(.agg r0.toArray),(.int .i64 11)]) g5 m')
    (Jb .int .neq v35 (.int .u64 u) fun v42=>Qa v42 (Qe (encI Jm) [] fun c44=>Qd (ptr n 0) fun lg5 og5=>Zm (.agg c44.toArray) fun cg5=>cg5.length=5∧Js g4 lg5 og5 cg5 fun g5=>Qd (ptr n 0) fun lr0 or0=>Qn g5 lr0 or0 5 fun r0=>Jc K (.tuple #[(.agg r0.toArray),(.int .i64 11)]) g5 m')
     (Qn g4 m 0 5 fun c45=>Qd (ptr n 0) fun lg7 og7=>Zm (.agg c45.toArray) fun cg7=>cg7.length=5∧Js g4 lg7 og7 cg7 fun g7=>Qd (ptr n 0) fun lr0 or0=>Qn g7 lr0 or0 5 fun r0=>Jc K (.tuple #[(.agg r0.toArray),(.int .i64 0)]) g7 m')):=by
   intro w e he0 he1 g4 m' s4
   refine QY rfl (QY rfl (Xa7 (Jg (fun h=>bad g4 m' s4 (by rw [he1 h];rfl)) (fun h=> ?_))))
   obtain ⟨q1,q2,q3⟩:=he0 (by simpa using h)
   refine Xa7 (Jg (fun h2=>bad g4 m' s4 ?_) (fun h2=> ?_))
   ·have:decode u=none:=by
     unfold decode
     rw [if_neg]
     rintro ⟨k,_⟩
     exact h2 (by rw [q3];exact (QeW h0 h1).2 k)
    rw [this];rfl
   ·have hd:decode u=some (Xck u):=by
     unfold decode
     rw [if_pos ⟨(QeW h0 h1).1 (by rw [←q3];simpa using h2),q2,q1⟩]
    refine ldI (s4.live x3) ?_
    simp only [Zb,Je]
    refine stI (e:=Xck u) (s4.live y3) (fun y5=>ldI y5 ?_)
    exact Ja (Sub.refl _) (hK _ _ _ 0 ((s3.trans s4).upd_fresh _ hn) ⟨fun _=>by rw [hd];rfl,fun _=>rfl⟩)
  by_cases h22:(Xck u).op≤22
  ·refine JcN (Qdi h0) h22 (fun g4 m' s4=>fin _ _ (fun h=> ?_) (fun h=> ?_) g4 m' s4)
   ·unfold Q9 at h ⊢
    split at h
    ·rename_i hg;rw [if_pos hg];exact ⟨hg,h22,rfl⟩
    ·exact absurd h (by decide)
   ·unfold Q9 at h
    split at h
    ·exact absurd rfl h
    ·rename_i hg
     unfold decode
     rw [if_neg (fun k=>hg k.2.2)]
  ·refine Jez (by omega) (fun g4 m' s4=>fin _ _ (fun h=>absurd h (by decide)) (fun _=> ?_) g4 m' s4)
   unfold decode
   rw [if_neg (fun k=>h22 k.2.1)]
 have him:=Xgq h0 h1
 refine JeJ (Jg (fun h=> ?_) (fun h=> ?_))
 ·rw [Qao,Xe (by omega) (by omega)]
  refine j _ _ rfl rfl ?_
  rw [him,if_pos h]
  rfl
 ·refine j _ _ rfl rfl ?_
  rw [him,if_neg h]
  rfl
end
end Go.Proofs.YtkdfaijmjmnhjaaGreat.Gen
namespace Go.Proofs.YtkdfaijmjmnhjaaGreat.Gen
open Go Go.Proofs.YtkdfaijmjmnhjaaGreat.Abs Go.RowKit
variable {g:G} {n:Nat}
theorem Zez {x:Int} (h:(Lit.int .u8 x).wf=true):0≤x∧x≤255:=by
 simp only [Lit.wf,Bool.and_eq_true,decide_eq_true_eq] at h
 exact h
theorem Qhd {x:Int} (h:(Lit.int .u16 x).wf=true):0≤x∧x≤65535:=by
 simp only [Lit.wf,Bool.and_eq_true,decide_eq_true_eq] at h
 exact h
theorem JgE {x:Int} (h:(Lit.int .u64 x).wf=true):0≤x∧x≤18446744073709551615:=by
 simp only [Lit.wf,Bool.and_eq_true,decide_eq_true_eq] at h
 exact h
theorem JdO {k:IntKind} {v:Value} (h:RepL g [.i k] [v]): ∃a,v= .int k a∧(Lit.int k a).wf=true:=by
 obtain ⟨a,r,e,q,h⟩:=Zcj h
 have f:=Qdf h
 subst f
 cases e
 exact ⟨a,rfl,q⟩
end Go.Proofs.YtkdfaijmjmnhjaaGreat.Gen
namespace Go.Proofs.YtkdfaijmjmnhjaaGreat.Gen
open Go Go.Proofs.YtkdfaijmjmnhjaaGreat.Abs Go.RowKit
variable {g:G} {n:Nat}
section
variable {K:Cont}
theorem Qd1 {is:List Ins} {k:Nat} (hk:is.length=k) (hop: ∀i∈is,0≤i.op∧i.op≤22) (hl:is.length≤4096) {J:Nat→Cont} (hK: ∀l v' g' n',Sub g g'→OwnS XbH 1 g g' v' (codeF is)→J l v' g' n'):
  Qp (is.map encI).flatten .exact g n fun l g1 n1=>AC Jj [.slice (some ⟨l,0,none⟩) k k] g1 n1 (J l):=by
 intro hn
 have s1:=(Sub.refl g).new hn (some (.cells (is.map encI).flatten .exact))
 have hsl:Sl encI 5 (upd g n (some (.cells (is.map encI).flatten .exact))) (.slice (some ⟨n,0,none⟩) k k) is:=by
  subst hk
  exact Rd.lit (Xa _ _ _) (Jh encI 5 Z0 is)
 refine ZbP hsl hop hl (fun v2 g2 n2 s2 o2=>hK _ _ _ _ (s1.trans s2) (o2.base s1))
def tellI:List Ins:=[⟨21,1,0,0,0⟩]
def nopI:List Ins:=[⟨0,0,0,0,0⟩]
theorem Zgy:codeF nopI=[0]:=by decide
set_option maxRecDepth 100000 in
theorem Xhq (hK: ∀n' g',K (.bool true) g' n') {t:Env} {v:Value} {us:List Int} (t11:t 11=v) (hv:Sl XbH 1 g v us) (hl:us.length≤4096) (hu: ∀u∈us,0≤u∧u<18446744073709551616) (hs:stopped (Jai 100 (Xau 0 2 us) wS0 [])):XJ AC K t g n:=by
 simp only [XJ,t11]
 obtain ⟨h1,h2⟩:=hs
 refine XcC (most:=100) hv hl hu (by decide) (fun vt va g3 n3 ht ha=> ?_)
 rw [h1]
 rw [h2] at ht ha
 have ht':Sl XbH 1 g3 vt []:=ht
 refine QY rfl (QY rfl (QY rfl (Xc rfl ?_)))
 refine ht'.len (ZP (Xc rfl ?_))
 refine ha.len (ZP (Xc rfl ?_))
 refine Jdp (K:=True) ha (k:=0) rfl (ZP (Xc rfl ?_))
 refine Jdp (K:=True) ha (k:=1) rfl (ZP (Xc rfl ?_))
 exact Zak (fun g' n'=>Ja (Sub.refl _) (hK _ _))
set_option maxRecDepth 100000 in
theorem ZgM (hK: ∀n' g',K (.bool true) g' n') {t:Env} {x:Int} {v:Value} {us:List Int} (hx:0≤x∧x≤255) (t0:t 0= .int .u8 x) (t7:t 7=v) (hv:Sl XbH 1 g v us) (hl:us.length≤100) (hu: ∀u∈us,0≤u∧u<18446744073709551616)
  (hs:stopped (Jai 100 (Xau 0 2 (if x/6%3=2 then us else us++codeF tellI)) wS0 [])):Jp AC K t g n:=by
 simp only [Jp,t0,t7]
 rw [Xo]
 intro hn
 have s1:=(Sub.refl g).new hn (some (.cells (reps 0 [Value.int .u64 0]) .exact))
 have hv1:=hv.mono s1
 generalize upd g n (some (.cells (reps 0 [Value.int .u64 0]) .exact))=g1 at s1 hv1
 refine (OwnS.empty (g0:=g) (enc:=XbH) (z:=1)).append s1 hv1 XaS (by decide) (by rw [List.length_nil];omega) (by rw [List.length_nil];omega) (fun v2 g2 n2 k1 k2 _ _=> ?_)
 rw [List.nil_append] at k2
 refine Qg4 ?_
 change Qe (reps tellI.length (encI Jm)) (JaJ 0 tellI) _
 refine ZdF ?_
 refine Qd1 (is:=tellI) rfl (by decide) (by decide) (fun l3 v3 g3 n3 s3 o3=> ?_)
 have hct:(codeF tellI).length=1:=rfl
 refine (k2.mono s3).append (k1.trans s3) o3.sl XaS (by decide) (by rw [hct];omega) (by rw [hct];omega) (fun v4 g4 n4 k3 k4 _ _=> ?_)
 rw [ZcZ]
 refine ⟨by decide,?_⟩
 rw [Int.tdiv_eq_ediv_of_nonneg hx.1,show IntKind.u8.wrap (x/6)=x/6%256 from rfl,Int.emod_eq_of_lt (by omega) (by omega),JU]
 refine ⟨by decide,?_⟩
 rw [Int.tmod_eq_emod_of_nonneg (by omega)]
 have hv4:=hv.mono k3
 refine ZP (Jg (fun h2=> ?_) (fun h2=> ?_))
 ·rw [if_pos h2] at hs
  exact Xhq hK (rfl:_=v) hv4 (by omega) hu hs
 ·rw [if_neg h2] at hs
  refine Xhq hK (rfl:_=v4) k4.sl (by rw [List.length_append,hct];omega) (fun u hu'=> ?_) hs
  rcases List.mem_append.1 hu' with h|h
  ·exact hu u h
  ·exact Qcl (is:=tellI) (by decide) u h
theorem ZbZ {k j:Nat} (h:j<k) (xs:List Int):(List.replicate k (0:Int)++xs)[j]? =some 0:=by
 rw [List.getElem?_append_left (by simpa using h),List.getElem?_replicate,if_pos h]
theorem QeC {k j:Nat} (xs:List Int):(List.replicate k (0:Int)++xs)[k+j]? =xs[j]? :=by
 rw [List.getElem?_append_right (by simp),List.length_replicate,Nat.add_sub_cancel_left]
set_option maxRecDepth 100000 in
theorem Xds {x u a:Int} (hx:0≤x∧x≤255) (hu:0≤u∧u≤18446744073709551615) (ha:0≤a∧a≤65535) (hK: ∀n' g',K (.bool true) g' n'):AC X3 [.int .u8 x,.int .u64 u,.int .u16 a] g n K:=by
 refine ACalls.fold Qc ?_
 rw [←Xbf]
 simp only [JaK]
 have hw0: ∀(k:Nat),∀w∈List.replicate k (0:Int),0≤w∧w<18446744073709551616:=by
  intro k w hw
  rw [(List.mem_replicate.1 hw).2];decide
 refine QH (m:=(x%6).toNat) (Inv:=fun m t g1 n1=> ∃(j:Nat) (v:Value),(m:Int)+j=x%6∧t 0= .int .u8 x∧t 1= .int .u64 u∧t 2= .int .u16 a∧t 7=v∧t 8= .int .i64 (j:Nat)∧Sub g g1∧OwnS XbH 1 g g1 v (List.replicate j 0)) ?_
  ⟨0,_,by omega,rfl,rfl,rfl,rfl,rfl,Sub.refl _,OwnS.nil⟩
 rintro I m t g1 n1 ih ⟨j,v,hm,q0,q1,q2,q7,q8,s1,ho⟩
 simp only [Qau]
 rw [q0,q8,q7,JM,Xe (by omega) (by omega),JU]
 refine ⟨by decide,?_⟩
 rw [Int.tmod_eq_emod_of_nonneg hx.1]
 refine Qck (Jg (fun hj=> ?_) (fun hj=> ?_))
 ·refine fI0 ?_
  change Qe (reps nopI.length (encI Jm)) (JaJ 0 nopI) _
  refine ZdF ?_
  refine Qd1 (is:=nopI) rfl (by decide) (by decide) (fun l3 v3 g3 n3 s3 o3=> ?_)
  rw [Zgy] at o3
  refine (ho.mono s3).append (s1.trans s3) o3.sl XaS (by decide) (by rw [List.length_replicate,List.length_singleton];omega) (by rw [List.length_replicate,List.length_singleton];omega) (fun v4 g4 n4 k3 k4 _ _=> ?_)
  rw [Zg,QW (by omega)]
  refine ih (m-1) _ _ _ (by omega) ⟨j+1,v4,by omega,q0,q1,q2,rfl,rfl,k3,?_⟩
  rw [List.replicate_succ',]
  exact k4
 ·have hj6:j≤5:=by omega
  have j2: ∀(t':Env),t' 0= .int .u8 x→t' 1= .int .u64 u→t' 2= .int .u16 a→t' 7=v→J4 AC K t' g1 n1:=by
   intro t' p0 p1 p2 p7
   simp only [J4,p0,p1,p2,p7]
   rw [ZcZ]
   refine ⟨by decide,?_⟩
   rw [Int.tdiv_eq_ediv_of_nonneg hx.1,show IntKind.u8.wrap (x/6)=x/6%256 from rfl,Int.emod_eq_of_lt (by omega) (by omega),JU]
   refine ⟨by decide,?_⟩
   rw [Int.tmod_eq_emod_of_nonneg (by omega)]
   refine ZP (Jg (fun h0=> ?_) (fun h0=> ?_))
   ·refine Zem hu.1 (by omega) (fun g4 n4 i e s4 he=> ?_)
    refine QY rfl (QY rfl ?_)
    change Qp (encI Jm) .exact g4 n4 _
    intro hn5
    have s5:=(Sub.refl g4).new hn5 (some (.cells (encI Jm) .exact))
    rw [Je]
    refine stI (e:=i) (z:=Jm) (Xa _ _ _) (fun x6=> ?_)
    have s6:Sub g4 (upd (upd g4 n4 (some (.cells (encI Jm) .exact))) n4 (some (.cells (encI i) .exact))):=s5.upd_fresh _ hn5
    generalize upd (upd g4 n4 (some (.cells (encI Jm) .exact))) n4 (some (.cells (encI i) .exact))=g6 at s6
    refine ZP (Jg (fun hok=> ?_) (fun hok=> ?_))
    ·exact Zak (fun g' n'=>Ja (Sub.refl _) (hK _ _))
    ·have hdec:decode u=none:=by
      cases hd:decode u with
      | none=>rfl
      | some y=>exact absurd (he.2 (by rw [hd];rfl)) hok
     refine ⟨rfl,by decide,?_⟩
     rw [Xo]
     change Qp (XbH u) .exact g6 _ _
     intro hn7
     have s7:=(Sub.refl g6).new hn7 (some (.cells (XbH u) .exact))
     have s17:=(s4.trans s6).trans s7
     refine (ho.mono s17).append (s1.trans s17) (Sl.one (Xbt _) (Xa _ _ _)) XaS (by decide) (by rw [List.length_replicate,List.length_singleton];omega) (by rw [List.length_replicate,List.length_singleton];omega) (fun v8 g8 n8 k3 k4 _ _=> ?_)
     refine ZgM hK hx p0 (rfl:_=v8) k4.sl (by rw [List.length_append,List.length_replicate,List.length_singleton];omega) (fun w hw=> ?_) ?_
     ·rcases List.mem_append.1 hw with h|h
      ·exact hw0 j w h
      ·rcases List.mem_singleton.1 h with rfl;omega
     ·rw [if_neg (by omega),List.append_assoc]
      refine XfE (k:=j) (fun i hi=>ZbZ hi _) (by omega) (.inr ⟨u,?_,hdec⟩)
      have:=QeC (k:=j) (j:=0) ([u]++codeF tellI)
      rw [Nat.add_zero] at this
      rw [this];rfl
   ·have ad: ∀{J:Value→List Value→List Value→List Value→Nat→Value→Cont},(∀w c1 c2 c3 l v60 v61 g' n',OwnS XbH 1 g g' v61 (List.replicate j 0++[Qat ⟨1,1,0,0,a⟩,Qat ⟨9,2,1,0,0⟩])→J w c1 c2 c3 l v60 v61 g' n')→
      ZO .i64 (.int .u16 a) fun v56=>Qe (encI Jm) [(0,none,.int .i64 1),(1,none,.int .i64 1),(4,none,v56)] fun c57=>Qe (encI Jm) [(0,none,.int .i64 9),(1,none,.int .i64 2),(2,none,.int .i64 1)] fun c58=>
      Qe (reps 2 (encI Jm)) [(0,(some 5),(.agg c57.toArray)),(5,(some 5),(.agg c58.toArray))] fun c59=>Qp c59 .exact g1 n1 fun l59 g18 n59=>AC Jj [.slice (some ⟨l59,0,none⟩) 2 2] g18 n59 fun v60 g19 n60=>Qx v v60 1 8 g19 n60 (J v56 c57 c58 c59 l59 v60):=by
     intro J hJ
     rw [JM,Xe (by omega) (by omega)]
     refine JeK (XgW ?_)
     change Qe (reps ([⟨1,1,0,0,a⟩,⟨9,2,1,0,0⟩]:List Ins).length (encI Jm)) (JaJ 0 [⟨1,1,0,0,a⟩,⟨9,2,1,0,0⟩]) _
     refine ZdF ?_
     have hop: ∀i∈([⟨1,1,0,0,a⟩,⟨9,2,1,0,0⟩]:List Ins),0≤i.op∧i.op≤22:=Zf7 rfl
     refine Qd1 (is:=[⟨1,1,0,0,a⟩,⟨9,2,1,0,0⟩]) rfl hop (by show 2≤4096;decide) (fun l3 v3 g3 n3 s3 o3=> ?_)
     have hc2:codeF [⟨1,1,0,0,a⟩,⟨9,2,1,0,0⟩]=[Qat ⟨1,1,0,0,a⟩,Qat ⟨9,2,1,0,0⟩]:=by
      have e1:(Q9 ⟨1,1,0,0,a⟩).1=Qat ⟨1,1,0,0,a⟩:=by unfold Q9;rw [if_pos (Xd2 ha)]
      have e2:(Q9 ⟨9,2,1,0,0⟩).1=Qat ⟨9,2,1,0,0⟩:=by decide
      unfold codeF
      simp only [List.map_cons,List.map_nil]
      rw [e1,e2]
     have hlen2:(codeF [⟨1,1,0,0,a⟩,⟨9,2,1,0,0⟩]).length=2:=rfl
     refine (ho.mono s3).append (s1.trans s3) o3.sl XaS (by decide) (by rw [List.length_replicate,hlen2];omega) (by rw [List.length_replicate,hlen2];omega) (fun v4 g4 n4 k3 k4 _ _=>hJ _ _ _ _ _ _ _ _ _ ?_)
     rw [hc2] at k4;exact k4
    have w1:=(Qa5 (i:=⟨1,1,0,0,a⟩) (by show (0:Int)≤1;decide) (by show (1:Int)≤22;decide) (Xd2 ha)).2
    have w2:0≤Qat ⟨9,2,1,0,0⟩∧Qat ⟨9,2,1,0,0⟩<18446744073709551616:=by decide
    have af: ∀(t2:Env) (v61:Value) (g':G) (n':Nat),¬(a%8=0∧a<384)→x/6%3=1→t2 0= .int .u8 x→t2 7=v61→OwnS XbH 1 g g' v61 (List.replicate j 0++[Qat ⟨1,1,0,0,a⟩,Qat ⟨9,2,1,0,0⟩])→Jp AC K t2 g' n':=by
     intro t2 v61 g' n' hbad h1 r0 r7 k4
     refine ZgM hK hx r0 r7 k4.sl (by rw [List.length_append,List.length_replicate];show j+2≤100;omega) (fun w hw=> ?_) ?_
     ·rcases List.mem_append.1 hw with h|h
      ·exact hw0 j w h
      ·simp only [List.mem_cons,List.not_mem_nil,or_false] at h
       rcases h with rfl|rfl
       ·exact w1
       ·exact w2
     ·rw [if_neg (by omega),List.append_assoc]
      refine Xf3 (k:=j) ha hbad (fun i hi=>ZbZ hi _) (by omega) ?_ ?_
      ·have:=QeC (k:=j) (j:=0) ([Qat ⟨1,1,0,0,a⟩,Qat ⟨9,2,1,0,0⟩]++codeF tellI)
       rw [Nat.add_zero] at this
       rw [this];rfl
      ·rw [QeC];rfl
    refine ZP (Jg (fun h1=> ?_) (fun h1=> ?_))
    ·rw [JU]
     refine ⟨by decide,?_⟩
     rw [Int.tmod_eq_emod_of_nonneg ha.1]
     refine ZP (Jg (fun ha8=>Qck (Jg (fun ha4=> ?_) (fun ha4=> ?_))) (fun ha8=> ?_))
     ·exact Zak (fun g' n'=>Ja (Sub.refl _) (hK _ _))
     ·refine ad (fun w c1 c2 c3 l v60 v61 g' n' k4=>af _ v61 g' n' (fun h=>ha4 h.2) h1 p0 rfl k4)
     ·refine ad (fun w c1 c2 c3 l v60 v61 g' n' k4=>af _ v61 g' n' (fun h=>ha8 h.1) h1 p0 rfl k4)
    ·refine ZgM hK hx p0 p7 ho.sl (by rw [List.length_replicate];omega) (hw0 j) ?_
     rw [if_pos (by omega)]
     refine XfE (k:=j) (fun i hi=> ?_) (by omega) (.inl ?_)
     ·have:=ZbZ hi [];rwa [List.append_nil] at this
     ·exact List.getElem?_eq_none (by simp)
  exact j2 _ q0 q1 q2 q7
end
end Go.Proofs.YtkdfaijmjmnhjaaGreat.Gen
namespace Go.Proofs.YtkdfaijmjmnhjaaGreat.Gen
open Go Go.Proofs.YtkdfaijmjmnhjaaGreat.Abs Go.RowKit
def QgS (i:Nat):Ins:=⟨9,0,0,0,192+8*((i:Int)%8)⟩
def fuI (m:Nat):List Ins:=(List.range m).map QgS
def fuC (room:Int):Nat→Cr×Sys
 | 0=>(Xau 0 room (codeF (fuI (room.toNat+2))),wS0)
 | j+1=>(((fuC room j).1.exec (fuC room j).2).1,((fuC room j).1.exec (fuC room j).2).2.1)
def stD (p:Cr×Sys):Cr×Sys:=((p.1.drain p.2).1,(((p.1.drain p.2).2.1.up 0).1.hear 0).1)
def fuF (room:Int):Cr×Sys:=fuC room room.toNat
def Jd8:List Int:=[1,2,3,4,5,6,7,8]
theorem Xgr {r:Int} (h0:1≤r) (h1:r≤8):r∈Jd8:=by
 have:r=1∨r=2∨r=3∨r=4∨r=5∨r=6∨r=7∨r=8:=by omega
 simpa [Jd8] using this
set_option maxRecDepth 100000 in
theorem Qhx: ∀r∈Jd8,∀j∈List.range r.toNat,((fuC r j).1.exec (fuC r j).2).2.2.map (·.kind)=[12]:=by decide +kernel
set_option maxRecDepth 100000 in
theorem Zhw: ∀r∈Jd8,(fuF r).1.place=r∧((fuF r).1.b.length:Int)=r:=by decide +kernel
theorem QgK: ∀r∈Jd8,(fuF r).1.exec (fuF r).2=((fuF r).1,(fuF r).2,[]):=by
 intro r hr
 simp only [Jd8,List.mem_cons,List.not_mem_nil,or_false] at hr
 rcases hr with rfl|rfl|rfl|rfl|rfl|rfl|rfl|rfl<;>kernel_rfl
set_option maxRecDepth 100000 in
theorem ZhK: ∀r∈Jd8,((stD (fuF r)).1.b.length:Int)=r∧((stD (stD (fuF r))).1.b.length:Int)+1=r:=by decide +kernel
set_option maxRecDepth 100000 in
theorem Jhm: ∀r∈Jd8,((stD (stD (fuF r))).1.exec (stD (stD (fuF r))).2).2.2.map (·.kind)=[12]∧((stD (stD (fuF r))).1.exec (stD (stD (fuF r))).2).1.place=r+1∧(((stD (stD (fuF r))).1.exec (stD (stD (fuF r))).2).1.b.length:Int)=r:=by decide +kernel
end Go.Proofs.YtkdfaijmjmnhjaaGreat.Gen
namespace Go.Proofs.YtkdfaijmjmnhjaaGreat.Gen
open Go Go.Proofs.YtkdfaijmjmnhjaaGreat.Abs Go.RowKit
variable {g:G} {n:Nat}
section
variable {K:Cont} {o:Col Cl} {ls:Nat} {W:JaO} {w:CW} {S:Sys} {C:Cr}
theorem Xgb (i:Nat):fuI (i+1)=fuI i++[QgS i]:=by unfold fuI;rw [List.range_succ,List.map_append];rfl
theorem Zhf (m:Nat): ∀i∈fuI m,0≤i.op∧i.op≤22:=by
 intro i hi
 obtain ⟨j,_,rfl⟩:=List.mem_map.1 hi
 exact ⟨by show (0:Int)≤9;decide,by show (9:Int)≤22;decide⟩
theorem ZeW {v:Value} {evs:List Evt} (h:Sl QbI 5 g v evs) (he:evs.map (·.kind)=[12]) {J:Value→Nat→Nat→Value→Prop} (kk: ∀p l o,J p l o (.int .i64 12)):Jd v (.int .i64 0) 5 fun p=>Qd p fun l o=>kLd g l (o+0) (J p l o):=by
 obtain ⟨e,rfl,hk⟩: ∃e,evs=[e]∧e.kind=12:=by
  cases evs with
  | nil=>simp at he
  | cons e t=>
   cases t with
   | nil=>exact ⟨e,rfl,by simpa using he⟩
   | cons e2 t2=>simp at he
 refine h.idx (j:=0) Xaw rfl (fun l o ha=> ?_)
 rw [Zb]
 refine ha.ld (i:=0) (v:= .int .i64 12) ?_ (kk _ _ _)
 rw [←hk];rfl
theorem XfJ {v:Value} {evs:List Evt} (h:Sl QbI 5 g v evs) (he:evs.map (·.kind)=[12]) {J:Value→Prop} (kk:J (.int .i64 1)):Qan v J:=by
 refine h.len ?_
 have:evs.length=1:=by have:=congrArg List.length he;simpa using this
 rw [this];exact kk
set_option maxRecDepth 100000 in
theorem Zd3 {x y:Int} (hx:0≤x∧x≤255) (hy:0≤y∧y≤255) (hK: ∀n' g',K (.bool true) g' n'):AC J7 [.int .u8 x,.int .u8 y] g n K:=by
 refine ACalls.fold Qc ?_
 rw [←Zbh]
 simp only [XaQ]
 rw [JM,Xe (by omega) (by omega),JU]
 refine ⟨by decide,?_⟩
 rw [Int.tmod_eq_emod_of_nonneg hx.1,Zg,Xe (by omega) (by omega)]
 have hr0:1≤1+x%8:=by omega
 have hr1:1+x%8≤8:=by omega
 generalize 1+x%8=r at hr0 hr1
 have hr:=Xgr hr0 hr1
 refine QH (m:=r.toNat+2) (Inv:=fun m t g1 n1=> ∃(i:Nat) (v:Value),m+i=r.toNat+2∧t 1= .int .u8 y∧t 5= .int .i64 r∧t 6=v∧t 7= .int .i64 (i:Nat)∧Sub g g1∧OwnS encI 5 g g1 v (fuI i)) ?_
  ⟨0,_,by omega,rfl,rfl,rfl,rfl,Sub.refl _,OwnS.nil⟩
 rintro I m t g1 n1 ih ⟨i,v,hm,q1,q5,q6,q7,s1,ho⟩
 simp only [ZaD]
 rw [q5,q7,q6,Zg,Xe (by omega) (by omega)]
 have hil:(fuI i).length=i:=by unfold fuI;rw [List.length_map,List.length_range]
 refine Qck (Jg (fun hi=> ?_) (fun hi=> ?_))
 ·rw [JU]
  refine ⟨by decide,?_⟩
  rw [Int.tmod_eq_emod_of_nonneg (by omega),Qc0,Xe (by omega) (by omega),Zg,Xe (by omega) (by omega)]
  refine Zfz ?_
  change Qe (reps ([QgS i]:List Ins).length (encI Jm)) (JaJ 0 [QgS i]) _
  refine ZdF ?_
  intro hn2
  have s2:=(Sub.refl g1).new hn2 (some (.cells (([QgS i]:List Ins).map encI).flatten .exact))
  have hsl:Sl encI 5 (upd g1 n1 (some (.cells (([QgS i]:List Ins).map encI).flatten .exact))) (.slice (some ⟨n1,0,none⟩) 1 1) [QgS i]:=Rd.lit (Xa _ _ _) rfl
  refine (ho.mono s2).append (s1.trans s2) hsl XcB (by decide) (by rw [hil,List.length_singleton];omega) (by rw [hil,List.length_singleton];omega) (fun v3 g3 n3 k1 k2 _ _=> ?_)
  rw [Zg,QW (by omega)]
  refine ih (m-1) _ _ _ (by omega) ⟨i+1,v3,by omega,q1,q5,rfl,rfl,k1,?_⟩
  rw [Xgb];exact k2
 have him:i=r.toNat+2:=by omega
 subst him
 have j2: ∀(t:Env),t 1= .int .u8 y→t 5= .int .i64 r→t 6=v→Z8 AC K t g1 n1:=by
  intro t p1 p5 p6
  simp only [Z8,p5,p6]
  refine JbW (fun g2 n2 s2=> ?_)
  refine Xcx plainC (img:=[]) Sl.nil (fun h=>absurd ⟨rfl,.inl rfl⟩ h) (fun _ _ ls o3 g3 n3 W3 s3 h3=> ?_)
  refine QY rfl (QY rfl ?_)
  have hv3:Sl encI 5 g3 v (fuI (r.toNat+2)):=((ho.sl.mono s2).mono s3).mono (Z4 _ _)
  have hop:=Zhf (r.toNat+2)
  refine ZbP hv3 hop (by rw [hil];omega) (fun v4 g4 n4 s4 o4=> ?_)
  have h4:=h3.mono s4
  have hcl:(codeF (fuI (r.toNat+2))).length=r.toNat+2:=by unfold codeF;rw [List.length_map,hil]
  refine Jcp (o:=o3) (Zbc h3.live o4) h4.live (by decide) (by omega) (by rw [hcl];omega) (fun w g5 n5 s5 hfr c5=> ?_)
  have h5:=h4.mono s5
  refine QY rfl (QY rfl ?_)
  refine Xa7 (Xb rfl (Xa7 (Xb rfl (ZaE (Xb rfl (ZaE (Xb rfl ?_)))))))
  have hok:CSok (fuC r 0).1 (fuC r 0).2 0:=CSok.new Xbq (by omega) (by rw [hcl];omega) (Qcl hop) 0
  have a0:AS o3 g5 ls W3 w (fuC r 0).2 (fuC r 0).1 0 (.slice none 0 0) []:=⟨h5,c5,hok,OutH.nil⟩
  refine QH (m:=r.toNat) (Inv:=fun m t g6 n6=> ∃(i:Nat) (o:Col Cl) (W:JaO),m+i=r.toNat∧t 1= .int .u8 y∧t 5= .int .i64 r∧t 8=ptr ls 0∧t 10=ptr w.lc 0∧t 12= .int .i64 (i:Nat)∧AS o g6 ls W w (fuC r i).2 (fuC r i).1 (3*i) (.slice none 0 0) []) ?_
   ⟨0,_,_,by omega,p1,p5,rfl,rfl,rfl,a0⟩
  rintro I3 m3 t3 g6 n6 ih3 ⟨i,o6,W6,hm3,r1,r5,r8,r10,r12,a6⟩
  simp only [XaC]
  rw [r12,r5,r10,r8]
  refine Qck (Jg (fun hi=> ?_) (fun hi=> ?_))
  ·refine a6.exec (by omega) (fun x7 o7 g7 n7 W7 a7 e7=> ?_)
   have hev:=Qhx r hr i (List.mem_range.2 (by omega))
   refine XfJ e7 hev (Xa7 (Xb rfl ?_))
   refine ZeW e7 hev (fun p l o=>Xa7 (Xb rfl ?_))
   rw [Zg,QW (by omega)]
   exact ih3 (m3-1) _ _ _ (by omega) ⟨i+1,_,_,by omega,r1,r5,r8,r10,rfl,a7⟩
  have hir:i=r.toNat:=by omega
  subst hir
  change AS o6 g6 ls W6 w (fuF r).2 (fuF r).1 _ _ _ at a6
  obtain ⟨f1,f2⟩:=Zhw r hr
  have fst:=QgK r hr
  have ab:=a6.ok.le (show 3*r.toNat≤100 by omega)
  have a6:AS o6 g6 ls W6 w (fuF r).2 (fuF r).1 100 (.slice none 0 0) []:=⟨a6.sys,a6.co,ab,a6.out⟩
  have j4: ∀(t:Env),t 1= .int .u8 y→t 5= .int .i64 r→t 8=ptr ls 0→t 10=ptr w.lc 0→X7 AC K t g6 n6:=by
   intro t p1 p5 p8 p10
   simp only [X7]
   refine QH (m:=(y%5).toNat) (Inv:=fun m t g7 n7=> ∃(i:Nat) (o:Col Cl) (W:JaO),(m:Int)+i=y%5∧t 1= .int .u8 y∧t 5= .int .i64 r∧t 8=ptr ls 0∧t 10=ptr w.lc 0∧t 14= .int .i64 (i:Nat)∧AS o g7 ls W w (fuF r).2 (fuF r).1 (100+3*i) (.slice none 0 0) []) ?_
    ⟨0,_,_,by omega,p1,p5,p8,p10,rfl,a6⟩
   rintro I5 m5 t5 g7 n7 ih5 ⟨i,o7,W7,hm5,r1,r5,r8,r10,r14,a7⟩
   simp only [QaC]
   rw [r1,r14,r10,r8,r5,JM,Xe (by omega) (by omega),JU]
   refine ⟨by decide,?_⟩
   rw [Int.tmod_eq_emod_of_nonneg hy.1]
   refine Qck (Jg (fun hi=> ?_) (fun hi=> ?_))
   ·refine a7.exec (by omega) (fun x8 o8 g8 n8 W8 a8 e8=> ?_)
    rw [fst] at a8 e8
    refine e8.len (Xa7 (Xb rfl ?_))
    refine Jdm a8.co (fun n9=>Xa7 (Xb (decide_eq_false (fun h=>h f1)) ?_))
    refine Jak a8.co (fun v10 g10 n10 s10 e10=> ?_)
    refine e10.len (Xa7 (Xb (decide_eq_false (fun h=>h f2)) ?_))
    rw [Zg,QW (by omega)]
    exact ih5 (m5-1) _ _ _ (by omega) ⟨i+1,_,_,by omega,r1,r5,r8,r10,rfl,(a8.mono s10)⟩
   ·have ab7:=a7.ok.le (show 100+3*i≤200 by omega)
    have a7:AS o7 g7 ls W7 w (fuF r).2 (fuF r).1 200 (.slice none 0 0) []:=⟨a7.sys,a7.co,ab7,a7.out⟩
    have j6: ∀(t:Env),t 5= .int .i64 r→t 8=ptr ls 0→t 10=ptr w.lc 0→J8 AC K t g7 n7:=by
     intro t p5 p8 p10
     simp only [J8]
     have fin: ∀(t:Env) {o:Col Cl} {W:JaO} (g8:G) (n8:Nat),t 5= .int .i64 r→t 8=ptr ls 0→t 10=ptr w.lc 0→AS o g8 ls W w (stD (stD (fuF r))).2 (stD (stD (fuF r))).1 300 (.slice none 0 0) []→Qu AC K t g8 n8:=by
      intro t o W g8 n8 p5 p8 p10 a8
      simp only [Qu,p5,p8,p10]
      obtain ⟨z1,z2,z3⟩:=Jhm r hr
      refine a8.exec (by omega) (fun x9 o9 g9 n9 W9 a9 e9=> ?_)
      refine XfJ e9 z1 (ZP (Xc rfl ?_))
      refine ZeW e9 z1 (fun p l o=>ZP (Xc rfl ?_))
      refine Jdm a9.co (fun n10=> ?_)
      rw [Zg,Xe (by omega) (by omega)]
      refine ZP (Xc (decide_eq_true z2) ?_)
      refine Jak a9.co (fun v10 g10 n10 s10 e10=> ?_)
      refine e10.len (ZP (Xc (decide_eq_true z3) ?_))
      exact Zak (fun g' n'=>Ja (Sub.refl _) (hK _ _))
     obtain ⟨d1,d2⟩:=ZhK r hr
     refine QH (m:=2) (Inv:=fun m t g8 n8=> ∃(p:Cr×Sys) (o:Col Cl) (W:JaO),t 5= .int .i64 r∧t 8=ptr ls 0∧t 10=ptr w.lc 0∧AS o g8 ls W w p.2 p.1 (300-10*m) (.slice none 0 0) []∧((m=2∧t 15= .int .i64 0∧p=fuF r)∨(m=1∧t 15= .int .i64 1∧p=stD (fuF r))∨(m=0∧t 15= .int .i64 2∧p=stD (stD (fuF r))))) ?_
      ⟨fuF r,_,_,p5,p8,p10,⟨a7.sys,a7.co,a7.ok.le (by decide),a7.out⟩,.inl ⟨rfl,rfl,rfl⟩⟩
     rintro I7 m7 t7 g8 n8 ih7 ⟨p,o8,W8,r5,r8,r10,a8,hc⟩
     simp only [ZaC]
     rw [r5,r8,r10]
     have go: ∀(i:Nat),i<9→t7 15= .int .i64 (i:Nat)→(p.1.b.length:Int)=r→ ∀m',m'<m7→(∀(t:Env),t 15= .int .i64 ((i+1:Nat):Int)→((m'=2∧t 15= .int .i64 0∧stD p=fuF r)∨(m'=1∧t 15= .int .i64 1∧stD p=stD (fuF r))∨(m'=0∧t 15= .int .i64 2∧stD p=stD (stD (fuF r)))))→300-10*m7+2≤300-10*m'→
       Jb .int .lss (t7 15) (.int .i64 10) fun v105=>Qa v105 (AC Xs [ptr w.lc 0] g8 n8 fun v108 g11 n108=>Qan v108 fun v109=>Jb .int .eql v109 (.int .i64 r) fun v111=>Qa v111 (AC Qz [ptr w.lc 0,ptr ls 0] g11 n108 fun v117 g12 n117=>AC JA [ptr ls 0,.int .i64 0] g12 n117 fun v119 g13 n119=>AC Ju [ptr ls 0,.int .i64 0] g13 n119 fun v121 g14 n121=>
        Jb .int .add (t7 15) (.int .i64 1) fun v114=>I7 (puts t7 [(104,(t7 15)),(105,v105),(106,(.bool true)),(107,ptr w.lc 0),(108,v108),(109,v109),(110,(.int .i64 r)),(111,v111),(112,v111),(115,ptr w.lc 0),(116,ptr ls 0),(117,v117),(118,ptr ls 0),(119,v119),(120,ptr ls 0),(121,v121),(113,(t7 15)),(114,v114),(15,v114)]) g14 n121) (Qu AC K (puts t7 [(104,(t7 15)),(105,v105),(106,(.bool true)),(107,ptr w.lc 0),(108,v108),(109,v109),(110,(.int .i64 r)),(111,v111),(112,v111)]) g11 n108)) (Qu AC K (puts t7 [(104,(t7 15)),(105,v105),(106,(.bool false)),(107,undef),(108,undef),(109,undef),(110,undef),(111,undef),(112,(.bool false))]) g8 n8):=by
      intro i hi9 e15 hlen m' hm' hnx hbd
      rw [e15]
      refine Qck (Xc (decide_eq_true (by omega)) ?_)
      refine Jak a8.co (fun v9 g9 n9 s9 e9=> ?_)
      refine e9.len (ZP (Xc (decide_eq_true hlen) ?_))
      refine (a8.mono s9).drain (by omega) (fun x10 o10 g10 n10 W10 a10 e10=> ?_)
      refine a10.up 0 (fun x11 o11 g11 n11 W11 a11=> ?_)
      refine a11.hear (by omega) 0 (fun o12 g12 n12 W12 a12=> ?_)
      rw [Zg,QW (by omega)]
      exact ih7 m' _ _ _ hm' ⟨stD p,_,_,r5,r8,r10,⟨a12.sys,a12.co,a12.ok.le hbd,a12.out⟩,hnx _ rfl⟩
     rcases hc with ⟨rfl,h15,rfl⟩|⟨rfl,h15,rfl⟩|⟨rfl,h15,rfl⟩
     ·exact go 0 (by decide) h15 f2 1 (by decide) (fun t ht=> .inr (.inl ⟨rfl,ht,rfl⟩)) (by decide)
     ·exact go 1 (by decide) h15 d1 0 (by decide) (fun t ht=> .inr (.inr ⟨rfl,ht,rfl⟩)) (by decide)
     ·rw [h15]
      refine Qck (Xc rfl ?_)
      refine Jak a8.co (fun v9 g9 n9 s9 e9=> ?_)
      refine e9.len (ZP (Xb (decide_eq_false (by omega)) ?_))
      exact fin _ _ _ r5 r8 r10 (a8.mono s9)
    exact j6 _ r5 r8 r10
  exact j4 _ r1 r5 r8 r10
 exact j2 _ q1 q5 q6
end
end Go.Proofs.YtkdfaijmjmnhjaaGreat.Gen
namespace Go.Proofs.YtkdfaijmjmnhjaaGreat.Gen
open Go Go.Proofs.YtkdfaijmjmnhjaaGreat.Abs Go.RowKit
variable {g:G} {n:Nat}
section
variable {o:Col Cl} {ls:Nat} {W:JaO} {w:CW} {S:Sys} {C:Cr} {K:Cont} {k:Nat}
structure BS (o:Col Cl) (g:G) (ls:Nat) (W:JaO) (w:CW) (S:Sys) (C:Cr) (k:Nat):Prop where
 sys:SysH o g ls W S
 co:CoH o g w C
 ok:CSok C S k
theorem BS.exec (h:BS o g ls W w S C k) (hk:k+3<100000) (hK: ∀x o' g' n' W',BS o' g' ls W' w (C.exec S).2.1 (C.exec S).1 (k+3)→Sub (un w o g) (un w o' g')→Sl QbI 5 (un w o' g') x (C.exec S).2.2→K x g' n'):AC Jl [ptr w.lc 0,ptr ls 0] g n K:=
 XaZ h.sys h.co h.ok hk fun x o' g' n' W' h1 h2 h3 h4=>hK _ _ _ _ _ ⟨h1,h2,h.ok.exec hk⟩ h3 h4
theorem BS.drain (h:BS o g ls W w S C k) (hk:k<100000) (hK: ∀x o' g' n' W',BS o' g' ls W' w (C.drain S).2.1 (C.drain S).1 (k+1)→Sub (un w o g) (un w o' g')→Sl QbI 5 (un w o' g') x (C.drain S).2.2→K x g' n'):AC Qz [ptr w.lc 0,ptr ls 0] g n K:=
 Xdo h.sys h.co h.ok hk fun x o' g' n' W' h1 h2 h3 h4=>hK _ _ _ _ _ ⟨h1,h2,h.ok.drain hk⟩ h3 h4
theorem BS.hearC (h:BS o g ls W w S C k) (m:Ms) (hK: ∀x g' n',BS o g' ls W w S (C.hear m).1 k→Sub (un w o g) (un w o g')→K x g' n'):AC QS [ptr w.lc 0,.agg (Xk m).toArray] g n K:=
 XdD h.sys h.co h.ok.ok.waits m fun x g' n' h1 h2 h3 h4=>hK _ _ _ ⟨h1,h2,h.ok.hearC m⟩ h3
theorem BS.sysop {o':Col Cl} {g':G} {W':JaO} {S':Sys} {k':Nat} (h:BS o g ls W w S C k) (u:Sub (unc o g) (unc o' g')) (hs:SysH o' g' ls W' S') (hc:CSok C S' k'):BS o' g' ls W' w S' C k':=⟨hs,h.co.unc u,hc⟩
theorem BS.mono {g':G} (h:BS o g ls W w S C k) (s:Sub g g'):BS o g' ls W w S C k∧Sub (un w o g) (un w o g'):=⟨h.sysop (Sub.uncs h.sys.live s) (h.sys.mono s) h.ok,Ja3 (Sub.uncs h.sys.live s)⟩
theorem BS.up (h:BS o g ls W w S C k) (i:Int) (hK: ∀x o' g' n' W',BS o' g' ls W' w (S.up i).1 C k→Sub (un w o g) (un w o' g')→K x g' n'):AC JA [ptr ls 0,.int .i64 i] g n K:=
 ZeR h.sys h.ok.wf.shp (ZhF h.ok.wf) _ fun o' g' n' W' u h'=>hK _ _ _ _ _ (h.sysop u h' (h.ok.up i)) (Ja3 u)
theorem BS.answer (h:BS o g ls W w S C k) (i:Int) (hK: ∀x o' g' n' W',BS o' g' ls W' w (S.answer i).1 C k→Sub (un w o g) (un w o' g')→K x g' n'):AC QB [ptr ls 0,.int .i64 i] g n K:=
 ZcR h.sys (Xhb h.ok.wf) _ fun o' g' n' W' u h'=>hK _ _ _ _ _ (h.sysop u h' (h.ok.answer i)) (Ja3 u)
theorem BS.push (h:BS o g ls W w S C k) (i:Int) (hK: ∀x o' g' n' W',BS o' g' ls W' w (S.push i).1 C k→Sub (un w o g) (un w o' g')→K x g' n'):AC ZI [ptr ls 0,.int .i64 i] g n K:=
 JdB h.sys h.ok.wf.shp _ fun o' g' n' W' u h'=>hK _ _ _ _ _ (h.sysop u h' (h.ok.push i)) (Ja3 u)
theorem BS.hear (h:BS o g ls W w S C k) (hk:k<100000) (i:Int) (hK: ∀o' g' n' W',BS o' g' ls W' w (S.hear i).1 C (k+1)→Sub (un w o g) (un w o' g')→K (.tuple #[.agg (Xk (S.hear i).2.1).toArray,.int .i64 (S.hear i).2.2]) g' n'):AC Ju [ptr ls 0,.int .i64 i] g n K:=
 XdE h.sys (h.ok.wf.fit hk) _ fun o' g' n' W' u h'=>hK _ _ _ _ (h.sysop u h' (h.ok.hear hk i)) (Ja3 u)
theorem Qf4 {id room:Int} {v:Value} {us:List Int} (hv:Sl XbH 1 g v us) (hid:0≤id∧id<8) (hr:1≤room∧room≤16) (hl:4096<us.length) (hK: ∀g' n',Sub g g'→K (.tuple #[.pointer none,.int .i64 3]) g' n'):AC Qaz [.int .i64 id,.int .i64 room,v] g n K:=by
 refine ACalls.fold Qc ?_
 rw [←Zc6]
 simp only [JdW]
 refine Qck (Jg (fun h=>by omega) (fun _=>JeJ (Jg (fun h=>by omega) (fun _=> ?_))))
 refine QcR hr (fun lb g1 n1 fb s1 b1=> ?_)
 refine QY rfl (QY rfl (Xa7 (Xb rfl ?_)))
 refine (hv.mono s1).len (Je1 (Jg (fun _=>Ja (Sub.refl _) (hK _ _ s1)) (fun h=>by omega)))
def Zau (x:ZgF):List Value:=[.int .i64 x.kind,.int .i64 x.line,.int .u64 x.val]++Xk x.m
theorem QaL (x:ZgF):(Zau x).length=15:=by unfold Zau;rw [List.length_append,Zk];rfl
theorem QeG (x:ZgF): ∀v∈Zau x,isCell v=true:=by
 intro v hv
 unfold Zau at hv
 rcases List.mem_append.1 hv with hv|hv
 ·simp at hv;rcases hv with rfl|rfl|rfl<;>rfl
 ·exact XbQ _ _ hv
def Zdd:ZgF:=⟨0,0,0,Xm⟩
theorem Jhx {l:Nat} {z e:ZgF} {K:G→Prop} (h:g l=some (.cells (Zau z) .exact)) (kk:upd g l (some (.cells (Zau e) .exact)) l=some (.cells (Zau e) .exact)→K (upd g l (some (.cells (Zau e) .exact)))):(Zau e).length=15∧Js g l 0 (Zau e) K:=by
 refine ⟨QaL _,Zv h rfl (by rw [QaL,QaL];decide) (QeG _) ?_⟩
 rw [Xw (by rw [QaL,QaL])]
 exact kk (Xa _ _ _)
set_option maxRecDepth 100000 in
theorem Xdh {v1 v2:Value} {prog:List Int} {steps:List ZgF} (h1:Sl XbH 1 g v1 prog) (h2:Sl Zau 15 g v2 steps) (hb:prog.length*8≤140737488355328) (hu: ∀u∈prog,0≤u∧u<18446744073709551616) (hK: ∀n' g',K (.bool true) g' n'):
  AC ZW [v1,v2] g n K:=by
 refine ACalls.fold Qc ?_
 rw [←Za8]
 simp only [JaI]
 refine JbW (fun g1 n1 s1=> ?_)
 refine Xcx plainC (img:=[]) Sl.nil (fun h=>absurd ⟨rfl,.inl rfl⟩ h) (fun _ _ ls o2 g2 n2 W2 s2 y2=> ?_)
 refine QY rfl (QY rfl ?_)
 rw [Xo]
 intro hn3
 have s3:=(Sub.refl g2).new hn3 (some (.cells (reps 0 [Value.int .u64 0]) .exact))
 have s02:Sub g g2:=(s1.trans s2).trans (Z4 _ _)
 have h13:=(h1.mono s02).mono s3
 generalize hg3:upd g2 n2 (some (.cells (reps 0 [Value.int .u64 0]) .exact))=g3 at s3 h13
 refine (OwnS.empty (g0:=g2) (enc:=XbH) (z:=1)).append s3 h13 XaS (by decide) (by rw [List.length_nil];omega) (by rw [List.length_nil];omega) (fun v4 g4 n4 k1 k2 _ _=> ?_)
 rw [List.nil_append] at k2
 have y4:=y2.mono k1
 have hw: ∀(g':G) (n':Nat),AC Zh [] g' n' fun v g6 n6=>Jc K v g6 n6:=fun g' n'=>Zak (fun g' n'=>Ja (Sub.refl _) (hK _ _))
 by_cases hbig:4096<prog.length
 ·refine Qf4 k2.sl (by decide) (by decide) hbig (fun g5 n5 s5=> ?_)
  refine QY rfl (QY rfl (Xa7 (Xb rfl (ZaE (Xb rfl ?_)))))
  refine h2.len (Je1 (Jg (fun _=>ZP (Xc rfl (Jfg (Xc rfl (hw _ _))))) (fun _=> ?_)))
  refine h1.len (Je1 (Jg (fun _=>ZP (Xc rfl (Jfg (Xc rfl (hw _ _))))) (fun h=>by omega)))
 refine Jcp (o:=o2) (Zbc y2.live k2) y4.live (by decide) (by decide) (by omega) (fun w g5 n5 s5 hfr c5=> ?_)
 have y5:=y4.mono s5
 refine QY rfl (QY rfl (Xa7 (Xb rfl (ZaE (Xb rfl ?_)))))
 refine h2.len (Je1 (Jg (fun _=>ZP (Xc rfl (Jfg (Xc rfl (hw _ _))))) (fun hl2=> ?_)))
 refine h1.len (Je1 (Jg (fun _=>ZP (Xc rfl (Jfg (Xc rfl (hw _ _))))) (fun hl1=> ?_)))
 refine Xa7 (Xb rfl (ZaE (Xb rfl ?_)))
 have h2u:Sl Zau 15 (un w o2 g5) v2 steps:=by
  refine Sl.mono (g:=un w o2 g4) ?_ (Ja3 (Sub.uncs y4.live s5))
  have hu4:Sl Zau 15 (unc o2 g4) v2 steps:=((h2.mono s1).mono s2).mono (Sub.uncs y2.live k1)
  refine hu4.keep (fun l b e hbl=> ?_)
  have e4:g4 l=some b:=(Z4 o2 g4).live e
  have hm: ¬w.mem l:=fun hm=>by rw [hfr l hm] at e4;cases e4
  unfold un
  rw [if_neg hm];exact e
 refine QH (m:=steps.length) (Inv:=fun m t g6 n6=> ∃(i:Nat) (o:Col Cl) (W:JaO) (S:Sys) (C:Cr),m+i=steps.length∧t 1=v2∧t 5=ptr ls 0∧t 7=ptr w.lc 0∧t 9= .int .i64 (i:Nat)∧BS o g6 ls W w S C (3*i)∧C.room=3∧Sl Zau 15 (un w o g6) v2 steps) ?_
  ⟨0,_,_,_,_,by omega,rfl,rfl,rfl,rfl,⟨y5,c5,CSok.new Xbq (by decide) (by omega) hu 0⟩,rfl,h2u⟩
 rintro I m t g6 n6 ih ⟨i,o6,W6,S,C,hm,q1,q5,q7,q9,b6,hroom,sl6⟩
 simp only [Jap]
 rw [q1,q9,q7,q5]
 have j3: ∀(t':Env) {o':Col Cl} {W':JaO} {S':Sys} {C':Cr} {k':Nat} (g7:G) (n7:Nat),i<steps.length→t' 1=v2→t' 5=ptr ls 0→t' 7=ptr w.lc 0→t' 9= .int .i64 (i:Nat)→BS o' g7 ls W' w S' C' k'→k'≤3*i+3→C'.room=3→Sub (un w o6 g6) (un w o' g7)→Xj AC K I t' g7 n7:=by
  intro t' o' W' S' C' k' g7 n7 hi p1 p5 p7 p9 b7 hk7 hr7 s7
  simp only [Xj,p7]
  have hwt:=b7.ok.ok.waits
  have hbl:=b7.ok.ok.b
  refine Jcd b7.co (fun n8=>Qck (Jg (fun h=>by omega) (fun _=> ?_)))
  refine Jcd b7.co (fun n9=>Je1 (Jg (fun h=>by omega) (fun _=> ?_)))
  refine Jak b7.co (fun v10 g10 n10 s10 e10=> ?_)
  refine e10.len (Je1 (Jg (fun h=>by omega) (fun _=> ?_)))
  obtain ⟨b10,u10⟩:=b7.mono s10
  simp only [Qaq]
  show Jb .int .add (t' 9) (.int .i64 1) _
  rw [p9,Zg,QW (by omega)]
  refine ih (m-1) _ _ _ (by omega) ⟨i+1,_,_,_,_,by omega,p1,p5,p7,rfl,⟨b10.sys,b10.co,b10.ok.le (by omega)⟩,hr7,(sl6.mono s7).mono u10⟩
 have sl6':=sl6.mono (JdT w o6 g6)
 refine sl6'.len (Qck (Jg (fun hi=> ?_) (fun hi=>hw _ _)))
 have hi':i<steps.length:=by omega
 obtain ⟨x,hx⟩: ∃x,steps[i]? =some x:=⟨_,List.getElem?_eq_getElem hi'⟩
 refine sl6'.idx QaL hx (fun l6 o6' ha=> ?_)
 rw [Zb]
 refine ha.ldN (by rw [QaL]) ?_
 change Qp (Zau Zdd) .exact g6 n6 _
 intro hn7
 have s7:=(Sub.refl g6).new hn7 (some (.cells (Zau Zdd) .exact))
 rw [Je]
 refine Jhx (e:=x) (z:=Zdd) (Xa _ _ _) (fun x8=> ?_)
 have s8:Sub g6 (upd (upd g6 n6 (some (.cells (Zau Zdd) .exact))) n6 (some (.cells (Zau x) .exact))):=s7.upd_fresh _ hn7
 generalize upd (upd g6 n6 (some (.cells (Zau Zdd) .exact))) n6 (some (.cells (Zau x) .exact))=g8 at x8 s8
 obtain ⟨b8,u8⟩:=b6.mono s8
 refine Qb x8 rfl ?_
 have inner: ∀(t':Env) (calm:Bool) {o':Col Cl} {W':JaO} (ve:Value) (g9:G) (n9:Nat),calm=C.still→t' 1=v2→t' 5=ptr ls 0→t' 7=ptr w.lc 0→t' 9= .int .i64 (i:Nat)→t' 11= .bool calm→t' 12=ve→t' 13= .int .i64 0→BS o' g9 ls W' w (C.exec S).2.1 (C.exec S).1 (3*i+3)→Sub (un w o6 g6) (un w o' g9)→Sl QbI 5 g9 ve (C.exec S).2.2→lfp (ZG AC K I) t' g9 n9:=by
  intro t' calm o' W' ve g9 n9 hcalm p1 p5 p7 p9 p11 p12 p13 b9 s9 e9
  have hlen:=QeV C S
  refine QH (m:=(C.exec S).2.2.length) (Inv:=fun mm t2 gg nn=> ∃j:Nat,mm+j=(C.exec S).2.2.length∧gg=g9∧t2 1=v2∧t2 5=ptr ls 0∧t2 7=ptr w.lc 0∧t2 9= .int .i64 (i:Nat)∧t2 11= .bool calm∧t2 12=ve∧t2 13= .int .i64 (j:Nat)) ?_ ⟨0,by omega,rfl,p1,p5,p7,p9,p11,p12,p13⟩
  rintro I2 mm t2 gg nn ih2 ⟨j,hmj,rfl,r1,r5,r7,r9,r11,r12,r13⟩
  simp only [ZG]
  rw [r12,r13,r11]
  refine e9.len (Qck (Jg (fun hj=> ?_) (fun hj=> ?_)))
  ·have hj':j<(C.exec S).2.2.length:=by omega
   obtain ⟨e,he⟩: ∃e,(C.exec S).2.2[j]? =some e:=⟨_,List.getElem?_eq_getElem hj'⟩
   have hcl:=Jfw C S e (List.mem_of_getElem? he)
   refine e9.idx Xaw he (fun l o ha=> ?_)
   rw [Zb]
   refine ha.ld (i:=0) rfl (ZP (Jg (fun h7=> ?_) (fun h7=> ?_)))
   ·have hc:calm=true:=by rw [hcalm];exact hcl (.inl h7)
    subst hc
    refine ZaK (Xb rfl ?_)
    rw [Zg,QW (by omega)]
    exact ih2 (mm-1) _ _ _ (by omega) ⟨j+1,by omega,rfl,r1,r5,r7,r9,r11,r12,rfl⟩
   ·refine e9.idx Xaw he (fun l2 o2 ha2=> ?_)
    rw [Zb]
    refine ha2.ld (i:=0) rfl (ZP (Jg (fun h4=> ?_) (fun h4=> ?_)))
    ·have hc:calm=true:=by rw [hcalm];exact hcl (.inr h4)
     subst hc
     refine ZaK (Xb rfl ?_)
     rw [Zg,QW (by omega)]
     exact ih2 (mm-1) _ _ _ (by omega) ⟨j+1,by omega,rfl,r1,r5,r7,r9,r11,r12,rfl⟩
    ·rw [Zg,QW (by omega)]
     exact ih2 (mm-1) _ _ _ (by omega) ⟨j+1,by omega,rfl,r1,r5,r7,r9,r11,r12,rfl⟩
  ·exact j3 _ _ _ hi' r1 r5 r7 r9 b9 (by omega) (by rw [(Zeb C S).1];exact hroom) s9
 refine ZP (Jg (fun k0=> ?_) (fun k0=> ?_))
 ·refine Jak b8.co (fun v9 g9 n9 s9 e9=> ?_)
  obtain ⟨b9,u9⟩:=b8.mono s9
  refine e9.len (ZP (Jg (fun hb0=> ?_) (fun hb0=> ?_)))
  ·refine Jcd b9.co (fun n10=>ZP ?_)
   have hbn:C.b=[]:=List.eq_nil_of_length_eq_zero (by omega)
   refine b9.exec (by omega) (fun x11 o11 g11 n11 W11 b11 s11 e11=> ?_)
   exact inner _ (decide (C.waits=0)) x11 _ _ (by unfold Cr.still;rw [hbn];rfl) q1 q5 q7 q9 rfl rfl rfl b11 ((u8.trans u9).trans s11) (e11.mono (JdT _ _ _))
  ·refine b9.exec (by omega) (fun x11 o11 g11 n11 W11 b11 s11 e11=> ?_)
   have hst:false=C.still:=by
    unfold Cr.still
    cases hb:C.b with
    | nil=>rw [hb] at hb0;exact absurd rfl hb0
    | cons a t=>rfl
   exact inner _ false x11 _ _ hst q1 q5 q7 q9 rfl rfl rfl b11 ((u8.trans u9).trans s11) (e11.mono (JdT _ _ _))
 refine ZP (Jg (fun k1'=> ?_) (fun k1'=> ?_))
 ·refine b8.drain (by omega) (fun x9 o9 g9 n9 W9 b9 s9 _=> ?_)
  exact j3 _ _ _ hi' q1 q5 q7 q9 b9 (by omega) (by rw [(ZdA C S).1];exact hroom) (u8.trans s9)
 refine ZP (Jg (fun k2'=> ?_) (fun k2'=> ?_))
 ·refine b8.up 0 (fun x9 o9 g9 n9 W9 b9 s9=> ?_)
  exact j3 _ _ _ hi' q1 q5 q7 q9 b9 (by omega) hroom (u8.trans s9)
 refine ZP (Jg (fun k3'=> ?_) (fun k3'=> ?_))
 ·refine b8.answer 0 (fun x9 o9 g9 n9 W9 b9 s9=> ?_)
  exact j3 _ _ _ hi' q1 q5 q7 q9 b9 (by omega) hroom (u8.trans s9)
 refine ZP (Jg (fun k4'=> ?_) (fun k4'=> ?_))
 ·refine b8.hear (by omega) 0 (fun o9 g9 n9 W9 b9 s9=> ?_)
  refine QY rfl (QY rfl (Zhb fun g10 s10=> ?_))
  obtain ⟨b10,u10⟩:=b9.mono s10
  refine b10.hearC _ (fun x11 g11 n11 b11 s11=> ?_)
  exact j3 _ _ _ hi' q1 q5 q7 q9 b11 (by omega) (by rw [(Jd6 C _).1];exact hroom) (((u8.trans s9).trans u10).trans s11)
 refine ZP (Jg (fun k5'=> ?_) (fun k5'=> ?_))
 ·refine Qb x8 rfl ?_
  refine b8.push _ (fun x9 o9 g9 n9 W9 b9 s9=> ?_)
  exact j3 _ _ _ hi' q1 q5 q7 q9 b9 (by omega) hroom (u8.trans s9)
 ·exact j3 _ _ _ hi' q1 q5 q7 q9 b8 (by omega) hroom u8
end
end Go.Proofs.YtkdfaijmjmnhjaaGreat.Gen
namespace Go.Proofs.YtkdfaijmjmnhjaaGreat.Gen
open Go Go.Proofs.YtkdfaijmjmnhjaaGreat.Abs Go.RowKit
variable {g:G} {n:Nat}
theorem Zd1 {args:List Value} (hr:Zdr g [(false,[.i .u8])] args) {K:Cont} (hK: ∀g' n',K (.bool true) g' n'):AC X4 args g n K:=by
 cases hr with
 | cons h1 hr=>
  cases hr
  obtain ⟨a,rfl,q⟩:=JdO h1
  exact Jdv (Zez q) (fun n' g'=>hK g' n')
end Go.Proofs.YtkdfaijmjmnhjaaGreat.Gen
namespace Go.Proofs.YtkdfaijmjmnhjaaGreat.Gen
open Go Go.Proofs.YtkdfaijmjmnhjaaGreat.Abs Go.RowKit
variable {g:G} {n:Nat}
theorem QdT {args:List Value} (hr:Zdr g [(false,[.i .u8]),(false,[.i .u8]),(false,[.i .u8])] args) {K:Cont} (hK: ∀g' n',K (.bool true) g' n'):AC J3 args g n K:=by
 cases hr with
 | cons h1 hr=>
 cases hr with
 | cons h2 hr=>
 cases hr with
 | cons h3 hr=>
  cases hr
  obtain ⟨a,rfl,q1⟩:=JdO h1
  obtain ⟨b,rfl,q2⟩:=JdO h2
  obtain ⟨c,rfl,q3⟩:=JdO h3
  exact Zdv (Zez q1) (Zez q2) (Zez q3) (fun n' g'=>hK g' n')
end Go.Proofs.YtkdfaijmjmnhjaaGreat.Gen
namespace Go.Proofs.YtkdfaijmjmnhjaaGreat.Gen
open Go Go.Proofs.YtkdfaijmjmnhjaaGreat.Abs Go.RowKit
variable {g:G} {n:Nat}
theorem ZdS {args:List Value} (hr:Zdr g [(false,[.i .u8]),(false,[.i .u64]),(false,[.i .u16])] args) {K:Cont} (hK: ∀g' n',K (.bool true) g' n'):AC X3 args g n K:=by
 cases hr with
 | cons h1 hr=>
 cases hr with
 | cons h2 hr=>
 cases hr with
 | cons h3 hr=>
  cases hr
  obtain ⟨a,rfl,q1⟩:=JdO h1
  obtain ⟨b,rfl,q2⟩:=JdO h2
  obtain ⟨c,rfl,q3⟩:=JdO h3
  exact Xds (Zez q1) (JgE q2) (Qhd q3) (fun n' g'=>hK g' n')
end Go.Proofs.YtkdfaijmjmnhjaaGreat.Gen
namespace Go.Proofs.YtkdfaijmjmnhjaaGreat.Gen
open Go Go.Proofs.YtkdfaijmjmnhjaaGreat.Abs Go.RowKit
variable {g:G} {n:Nat}
theorem Qd9 {args:List Value} (hr:Zdr g [(false,[.i .u8]),(false,[.i .u8])] args) {K:Cont} (hK: ∀g' n',K (.bool true) g' n'):AC J7 args g n K:=by
 cases hr with
 | cons h1 hr=>
 cases hr with
 | cons h2 hr=>
  cases hr
  obtain ⟨a,rfl,q1⟩:=JdO h1
  obtain ⟨b,rfl,q2⟩:=JdO h2
  exact Zd3 (Zez q1) (Zez q2) (fun n' g'=>hK g' n')
end Go.Proofs.YtkdfaijmjmnhjaaGreat.Gen
namespace Go.Proofs.YtkdfaijmjmnhjaaGreat.Gen
open Go Go.Proofs.YtkdfaijmjmnhjaaGreat.Abs Go.RowKit
variable {g:G} {n:Nat}
theorem Sl.ofSub {α β:Type} {enc:β→List Value} {z:Nat} {v:Value} {f:α→β} {xs:List α} (h:Sl (fun x=>enc (f x)) z g v xs):Sl enc z g v (xs.map f):=by
 unfold Sl at h ⊢
 rw [List.length_map,List.map_map];exact h
abbrev W64:={ x:Int // 0≤x∧x<18446744073709551616 }
theorem Xhn (c:List Value) (h:RepL g [.i .u64] c): ∃x:W64,c=XbH x.1:=by
 obtain ⟨a,r,e,q,h2⟩:=Zcj h
 have e2:=Qdf h2
 subst e2
 have:=JgE q
 exact ⟨⟨a,by omega⟩,e⟩
theorem Xhe (c:List Value) (h:RepL g [.i .i64,.i .i64,.i .u64,.i .i64,.i .i64,.b,.b,.i .u64,.i .u64,.i .u64,.i .u64,.i .u64,.i .u64,.i .u64,.i .u64] c): ∃x,c=Zau x:=by
 obtain ⟨a1,r1,e1,_,h⟩:=Zcj h
 obtain ⟨a2,r2,e2,_,h⟩:=Zcj h
 obtain ⟨a3,r3,e3,_,h⟩:=Zcj h
 obtain ⟨a4,r4,e4,_,h⟩:=Zcj h
 obtain ⟨a5,r5,e5,_,h⟩:=Zcj h
 obtain ⟨a6,r6,e6,h⟩:=Jhq h
 obtain ⟨a7,r7,e7,h⟩:=Jhq h
 obtain ⟨b0,q0,f0,_,h⟩:=Zcj h
 obtain ⟨b1,q1,f1,_,h⟩:=Zcj h
 obtain ⟨b2,q2,f2,_,h⟩:=Zcj h
 obtain ⟨b3,q3,f3,_,h⟩:=Zcj h
 obtain ⟨b4,q4,f4,_,h⟩:=Zcj h
 obtain ⟨b5,q5,f5,_,h⟩:=Zcj h
 obtain ⟨b6,q6,f6,_,h⟩:=Zcj h
 obtain ⟨b7,q7,f7,_,h⟩:=Zcj h
 have f8:=Qdf h
 subst f8 f7 f6 f5 f4 f3 f2 f1 f0 e7 e6 e5 e4 e3 e2 e1
 exact ⟨⟨a1,a2,a3,⟨a4,a5,a6,a7,⟨[b0,b1,b2,b3,b4,b5,b6,b7],rfl⟩⟩⟩,rfl⟩
theorem Jdt {args:List Value} (hr:Zdr g [(false,[.s [.i .u64]]),(false,[.s [.i .i64,.i .i64,.i .u64,.i .i64,.i .i64,.b,.b,.i .u64,.i .u64,.i .u64,.i .u64,.i .u64,.i .u64,.i .u64,.i .u64]])] args) {K:Cont} (hK: ∀g' n',K (.bool true) g' n'):AC ZW args g n K:=by
 cases hr with
 | cons h1 hr=>
 cases hr with
 | cons h2 hr=>
  cases hr
  obtain ⟨v1,r1,e1,h1,hn1⟩:=Jhl h1
  have f1:=Qdf hn1
  subst f1
  cases e1
  obtain ⟨v2,r2,e2,h2,hn2⟩:=Jhl h2
  have f2:=Qdf hn2
  subst f2
  cases e2
  have hbd:=fun a m c e=>Xf4 (a:=a) (m:=m) (c:=c) h1 e
  obtain ⟨xs,h1,_⟩:=ZgG Xhn h1
  obtain ⟨ys,h2,_⟩:=ZgG Xhe h2
  have hs:=Sl.ofSub (enc:=XbH) (f:=fun (x:W64)=>x.1) h1
  refine Xdh hs h2 ?_ ?_ (fun n' g'=>hK g' n')
  ·obtain ⟨a,c,e,_⟩:=id hs
   have h3:=hbd a _ c e
   have h4:wts [.i .u64]=8:=by decide
   have h5:reachBytes=140737488351232:=by decide
   rw [h4,h5] at h3
   omega
  ·intro u hu
   obtain ⟨x,_,rfl⟩:=List.mem_map.1 hu
   exact x.2
end Go.Proofs.YtkdfaijmjmnhjaaGreat.Gen
