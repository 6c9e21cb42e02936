import Derived.Test.YtmchcjaomcdbmaaGreatSpecMachineQuietC
/- What the functions come to. -/
set_option linter.all false
set_option linter.deprecated false
namespace Go.Proofs.YtmchcjaomcdbmaaGreat.Gen
open Go Go.Proofs.YtmchcjaomcdbmaaGreat.Abs Go.RowKit
section
variable {g:G} {n:Nat}
section
variable {F:G} {o:Col Cl} {lx ls:Nat} {W:QaI} {w:CW} {S:Sys} {C:Cr} {i:Ins} {evs:List Evt} {K:Cont}
theorem Xgg {K:List Value→Prop} (k:K (xC w ls QB (.slice none 0 0))):Qf [.pointer none,.pointer none,.int .i64 0,.int .i64 0,.int .i64 0,.int .i64 0,.int .i64 0,.slice none 0 0] [(0,none,ptr w.lc 0),(1,none,ptr ls 0)] K:=
 ⟨rfl,by decide,rfl,Nat.le_of_ble_eq_true rfl,k⟩
theorem CoH.notmem (h:CoH o g w C) {l:Nat} (j:g l=none): ¬w.mem l:=by
 obtain ⟨ds,e1,e2⟩:=h.hp
 obtain ⟨L,f,E⟩:=id h.hb
 rintro (e|e|e)
 ·rw [e,h.hc] at j;cases j
 ·rw [e,e2] at j;cases j
 ·rw [e,E.hb] at j;cases j
theorem StH.begin (hs:SysH o g ls W S) (hc:CoH o g w C) {l:Nat} (j:g l=none):StH (un w o g) o (upd g l (some (.cells (xC w ls QB (.slice none 0 0)) .exact))) l ls W w S C QB []:=by
 have J:=hs.live.fresh j
 have hm:=hc.notmem j
 have E:=(Sub.refl g).new j (some (.cells (xC w ls QB (.slice none 0 0)) .exact))
 have I:un w o g l=none:=by rw [ZdN hm J];exact j
 exact ⟨hs.mono E,hc.mono E,J,hm,I,Qeg (Sub.refl _) I _,_,Xa _ _ _,OutH.nil⟩
theorem OutH.slun {α:Type} {enc:α→List Value} {z:Nat} {v:Value} {xs:List α} {N:List Nat} (O: ∀x,(enc x).length=z) (h:OutH enc z F N o g v xs) (j: ∀l,w.mem l→l∈N):Sl enc z (un w o g) v xs:=by
 rcases h with ⟨rfl,rfl⟩|⟨l,off,cs,rfl,Q,_,I,J,E,he⟩
 ·exact Sl.nil
 ·exact ⟨_,_,rfl,Xh enc z O xs,.inr ⟨l,off,rfl⟩,λ_=>⟨l,off,cs,_,rfl,by rw [ZdN (λh=>I (j l h)) Q];exact J,E,he⟩⟩
def CW.L (w:CW):List Nat:=[w.lc,w.lp,w.lb]
theorem CW.memL {w:CW} {l:Nat} (h:w.mem l):l∈w.L:=by rcases h with rfl|rfl|rfl<;>simp [CW.L]
theorem CW.ofL {w:CW} {l:Nat} (h:l∈w.L):w.mem l:=by
 simp only [CW.L,List.mem_cons,List.not_mem_nil,or_false] at h
 exact h
theorem OutH.less {α:Type} {enc:α→List Value} {z:Nat} {v:Value} {xs:List α} {N N':List Nat} {j:G} (h:OutH enc z F N o g v xs) (I: ∀l∈N',l∈N) (E:Sub j F):OutH enc z j N' o g v xs:=by
 rcases h with h|⟨l,off,cs,rfl,V,U,O,Q,J,he⟩
 ·exact .inl h
 ·exact .inr ⟨l,off,cs,rfl,V,E.none U,λh=>O (I l h),Q,J,he⟩
theorem StH.outF (h:StH F o g lx ls W w S C i evs) {K:Value→Prop} (k: ∀v,OutH Xbb 5 F w.L o g v evs→K v):kLd g lx (0+7) K:=by
 obtain ⟨v,hx,E⟩:=h.hx
 refine Zb hx (show (xC w ls i v)[0+7]? =some v from rfl) (k v (E.less (λl j=> ?_) (Sub.refl _)))
 rcases CW.ofL j with rfl|rfl|rfl<;>simp [CW.N]
theorem StH.out (h:StH F o g lx ls W w S C i evs) {K:Value→Prop} (k: ∀v,Sl Xbb 5 (un w o g) v evs→K v):kLd g lx (0+7) K:=by
 obtain ⟨v,hx,j⟩:=h.hx
 refine Zb hx (show (xC w ls i v)[0+7]? =some v from rfl) (k v (j.slun JaC ?_))
 rintro l (rfl|rfl|rfl)<;>simp [CW.N]
theorem StH.seti (h:StH F o g lx ls W w S C i evs) (j:Ins) {K:G→Prop} (k: ∀g',StH F o g' lx ls W w S C j evs→K g'):(encI j).length=5∧Qu g lx (0+2) (encI j) K:=by
 obtain ⟨v,hx,J⟩:=h.hx
 refine ⟨J8 _,Xt hx rfl (by simp [xC,encI]) (XdA _) ?_⟩
 have e:splice (xC w ls i v) (0+2) (encI j)=xC w ls j v:=rfl
 rw [e]
 refine k _ ⟨h.sys.same (QbK h.ox _),h.co.keep (λl b hm E I=>⟨E,by rw [Zd _ _ (λe=>h.nx (by rw [←e];exact hm))];exact I⟩),h.ox,h.nx,h.fx,Qeg h.fr h.fx _,v,Xa _ _ _,J.upd (by simp [CW.N])⟩
theorem StH.code {g':G} {ds:List Cd} (h:StH F o g lx ls W w S C i evs) (hc:Chg (λx=>x=w.lp) g g') (hp:g' w.lp=some (.cells (ds.map Xac).flatten .exact)) (hd:ds.map (·.u)=C.us):StH F o g' lx ls W w S C i evs:=by
 obtain ⟨v,hx,O⟩:=h.hx
 obtain ⟨L,f,E⟩:=id h.co.hb
 refine ⟨h.sys.same (Xfv h.sys.live hc (λl e=>by rw [e];exact h.co.op)),⟨h.co.rl,h.co.oc,h.co.op,h.co.ob,h.co.n1,h.co.n2,h.co.n3,hc.live h.co.n1 h.co.hc,⟨ds,hd,hp⟩,h.co.hb.eq ((hc.live (Ne.symm h.co.n3) E.hb).trans E.hb.symm)⟩,h.ox,h.nx,h.fx,
  Jhn h.fr hc (λl e=> .inr (.inl e)),v,hc.live (λe=>h.nx (.inr (.inl e))) hx,?_⟩
 refine O.keep λl b I j J=>⟨j,hc.live (λe=>I ?_) J⟩
 rw [e];simp [CW.N]
theorem JdM (hs:SysH o g ls W S) (hc:CoH o g w C) {k:Nat} (j:CSok C S k) (hk:k+3<100000) (V: ∀v o' g' n' W',SysH o' g' ls W' (C.exec S).2.1→CoH o' g' w (C.exec S).1→Sub (un w o g) (un w o' g')→OutH Xbb 5 (un w o g) w.L o' g' v (C.exec S).2.2→K v g' n'):
  AC QX [ptr w.lc 0,ptr ls 0] g n K:=by
 refine ACalls.fold Xb ?_
 rw [←XbB]
 simp only [Xbr]
 refine QaE (Xo (λh=>nomatch h) (λ_=>QaE (Xo (λh=>nomatch h) (λ_=> ?_))))
 simp only [Qd,Qb]
 refine hc.ldt (k:=4) rfl (XaC (Xo (λhr=> ?_) (λhr=> ?_)))
 ·have e:C.exec S=(C,S,[]):=by unfold Cr.exec;rw [if_pos (by simpa using hr)]
  rw [e] at V
  exact Ja (Sub.refl _) (V _ _ _ _ _ hs hc (Sub.refl _) OutH.nil)
 have aa: ¬C.runs=false:=by simp only [Bool.not_eq_false];simpa using hr
 refine Xgg ?_
 rw [Xe]
 intro hn
 have I:=StH.begin hs hc hn
 generalize upd g n (some (.cells (xC w ls QB (.slice none 0 0)) .exact))=g1 at I
 refine I.co.ldt (k:=0) rfl ?_
 refine I.co.ldt (k:=1) rfl ?_
 rw [XbU]
 have ab:=j.ok.place
 have jt: ∀(t:Env) (U:G) (m:Nat),t 5=ptr n 0→t 6= .bool false→StH (un w o g) o U n ls W w S C QB []∨(∃i,StH (un w o g) o U n ls W w S C i [])→C.exec S=C.trap S→JX AC K t U m:=by
  intro t U m Y t6 E e
  rw [e] at V
  obtain ⟨i,E⟩: ∃i,StH (un w o g) o U n ls W w S C i []:=by
   rcases E with E|E
   ·exact ⟨_,E⟩
   ·exact E
  simp only [JX,Y,t6]
  refine XaC (Ze rfl ?_)
  refine JeQ E (by decide) (λv g3 n3 J=> ?_)
  simp only [Qd,Qb]
  refine J.outF (λv4 ac=> ?_)
  exact Ja (Sub.refl _) (V _ _ _ _ _ J.sys J.co J.fr ac)
 refine Qcv (Jg (λQ=> ?_) (λQ=> ?_))
 ·have ad:C.place.toNat<C.us.length:=by omega
  obtain ⟨u,O⟩: ∃u,C.us[C.place.toNat]? =some u:=⟨_,List.getElem?_eq_getElem ad⟩
  refine I.co.ldt (k:=1) rfl ?_
  refine I.co.ldt (k:=0) rfl ?_
  refine Zr ab.1 Q ?_
  obtain ⟨ds,e1,e2⟩:=I.co.hp
  have hd: ∃d,ds[C.place.toNat]? =some d∧d.u=u:=by
   rw [←e1,List.getElem?_map] at O
   cases hx:ds[C.place.toNat]? with
   | none=>rw [hx] at O;cases O
   | some d=>rw [hx] at O;cases O;exact ⟨d,rfl,rfl⟩
  obtain ⟨d,hd,rfl⟩:=hd
  have Z:=j.ok.u d.u (List.mem_of_getElem? O)
  refine Zg3 e2 hd Z (λU n2 af c2 p2 e3=> ?_)
  have E:=I.code c2 p2 (e3.trans e1)
  refine Jar rfl (Jar rfl ?_)
  rw [Xe]
  refine E.seti (JeW d.u) (λg3 J=> ?_)
  have hex:C.exec S=(match decode d.u with|none=>C.trap S|some i=>C.doX S i):=by
   unfold Cr.exec
   rw [if_neg aa,O]<;>rfl
  cases hdec:decode d.u with
  | none=>
   rw [hdec] at hex
   exact jt _ _ _ rfl rfl (.inr ⟨_,J⟩) hex
  | some i=>
   rw [hdec] at hex
   have ei:JeW d.u=i:=by unfold JeW;rw [hdec];rfl
   rw [ei] at J
   obtain ⟨q1,q2,q3⟩:=Zdw hdec
   rw [hex] at V
   have Y: ∀(t:Env) (m:Nat),t 5=ptr n 0→t 6= .bool true→JX AC K t g3 m:=by
    intro t m Y t6
    simp only [JX,Y,t6]
    refine XaC (Jc rfl ?_)
    refine Jhc J j.wf hk j.ok j.cn q3 ⟨by rw [q1];exact JeS Z.1,q2⟩ (by decide) ⟨ab.1,by have:=j.ok.us;omega⟩ (λv4 o4 g4 n4 W4 h4=> ?_)
    simp only [Qd,Qb]
    refine h4.outF (λv5 ae=> ?_)
    exact Ja (Sub.refl _) (V _ _ _ _ _ h4.sys h4.co h4.fr ae)
   exact Y _ _ rfl rfl
 ·refine jt _ _ _ rfl (by show Value.bool (decide (C.place<(C.us.length:Int)))=_;rw [decide_eq_false Q]) (.inl I) ?_
  unfold Cr.exec
  rw [if_neg aa,List.getElem?_eq_none (by omega)]
theorem XfY (hs:SysH o g ls W S) (hc:CoH o g w C) {k:Nat} (j:CSok C S k) (I:k+3<100000) (U: ∀v o' g' n' W',SysH o' g' ls W' (C.exec S).2.1→CoH o' g' w (C.exec S).1→Sub (un w o g) (un w o' g')→Sl Xbb 5 (un w o' g') v (C.exec S).2.2→K v g' n'):
  AC QX [ptr w.lc 0,ptr ls 0] g n K:=
 JdM hs hc j I λv o' g' n' W' O J E Q=>U v o' g' n' W' O J E (Q.slun JaC (λ_ h=>CW.memL h))
theorem JcB (h:StH F o g lx ls W w S C i evs) (line kind:Int) (Y:evs.length<900) (hw:0≤C.waits∧C.waits≤16)
  (I: ∀o' g' n' W',StH F o' g' lx ls W' w (C.flushX S line kind).1.2.1 (C.flushX S line kind).1.1 i (evs++(C.flushX S line kind).1.2.2)→K (.bool (C.flushX S line kind).2) g' n'):
  AC JM [ptr lx 0,.int .i64 line,.int .i64 kind] g n K:=by
 refine ACalls.fold Xb ?_
 rw [←XcN]
 simp only [Jb5,Qd,Qb]
 refine h.ldc ?_
 simp only [Qd,Qb]
 refine h.co.ldt (k:=3) rfl (QeA (Jg (λj=> ?_) (λj=> ?_)))
 ·have e:C.flushX S line kind=((C,S,[]),false):=by unfold Cr.flushX;rw [if_pos j]
  rw [e] at I
  have:=I o g n W
  simp only [List.append_nil] at this
  exact Ja (Sub.refl _) (I _ _ _ _ (by simp only [List.append_nil];exact h))
 refine h.lds (h.ldc ?_)
 simp only [Qd,Qb]
 refine h.co.ldid ?_
 refine Je9 h.sys _ _ _ (λo2 Z n2 W2 Q U=> ?_)
 have J:=h.sysop Q U
 refine Zbq (Jg (λE=> ?_) (λE=> ?_))
 ·have e:C.flushX S line kind=((C,(S.flush C.id line kind).1,[]),false):=by unfold Cr.flushX;rw [if_neg j,if_pos E]
  rw [e] at I
  exact Ja (Sub.refl _) (I _ _ _ _ (by simp only [List.append_nil];exact J))
 ·have e:C.flushX S line kind=(({ C with waits:=C.waits+1 },(S.flush C.id line kind).1,[C.ev 13 line 0 0]),true):=by unfold Cr.flushX;rw [if_neg j,if_neg E]
  rw [e] at I
  refine Qac J (by omega) _ _ _ _ (λV g3 n3 O=> ?_)
  try simp only [Qd,Qb]
  refine O.ldc ?_
  simp only [Qd,Qb]
  refine O.co.ldt (k:=3) rfl ?_
  rw [Jf,Qg (by omega) (by omega)]
  refine O.co.st (k:=3) (C':={ C with waits:=C.waits+1 }) (by decide) rfl rfl ?_
  exact Ja (Sub.refl _) (I _ _ _ _ (O.setC O.co.rl rfl rfl rfl))
set_option maxRecDepth 100000 in
theorem Jdb (hs:SysH o g ls W S) (hc:CoH o g w C) {k:Nat} (Y:CSok C S k) (hk:k<100000) (hK: ∀v o' g' n' W',SysH o' g' ls W' (C.drain S).2.1→CoH o' g' w (C.drain S).1→Sub (un w o g) (un w o' g')→OutH Xbb 5 (un w o g) w.L o' g' v (C.drain S).2.2→K v g' n'):
  AC JO [ptr w.lc 0,ptr ls 0] g n K:=by
 refine ACalls.fold Xb ?_
 rw [←Qbo]
 simp only [Zbf]
 refine QaE (Xo (λh=>nomatch h) (λ_=>QaE (Xo (λh=>nomatch h) (λ_=> ?_))))
 simp only [Qd,Qb]
 refine hc.ldt (k:=2) rfl ?_
 refine Qc5 hc.hb (λg1 n1 s1=> ?_)
 have ab:=hs.mono s1
 have ai:=hc.mono s1
 have u1:Sub (un w o g) (un w o g1):=JdJ (Sub.uncs hs.live s1)
 refine Jar rfl (Jar rfl ?_)
 change Zl (Qj Jm) .exact g1 n1 _
 intro V
 have s2:=(Sub.refl g1).new V (some (.cells (Qj Jm) .exact))
 rw [Xe]
 refine JgW (e:=C.b.headD Jm) (z:=Jm) (Xa _ _ _) (λx3=> ?_)
 have s3:Sub g1 (upd (upd g1 n1 (some (.cells (Qj Jm) .exact))) n1 (some (.cells (Qj (C.b.headD Jm)) .exact))):=s2.upd_fresh _ V
 have U:=ab.mono s3
 have Z:=ai.mono s3
 have u3:=u1.trans (JdJ (w:=w) (Sub.uncs ab.live s3))
 have o5:o n1=none:=ab.live.fresh V
 generalize upd (upd g1 n1 (some (.cells (Qj Jm) .exact))) n1 (some (.cells (Qj (C.b.headD Jm)) .exact))=g3 at x3 s3 U Z u3
 refine XaC ?_
 cases hb:C.b with
 | nil=>
  refine Ze rfl ?_
  have e:C.drain S=(C,S,[]):=by unfold Cr.drain;rw [hb]
  rw [e] at hK
  exact Ja (Sub.refl _) (hK _ _ _ _ _ U Z u3 OutH.nil)
 | cons e t=>
  refine Jc rfl ?_
  rw [hb] at x3
  change g3 n1=some (.cells (Qj e) .exact) at x3
  have he:=Y.ok.e e (by rw [hb];exact List.mem_cons_self ..)
  refine Xgg ?_
  rw [Xe]
  intro ad
  have Q:=StH.begin U Z ad
  have s4:=(Sub.refl g3).new ad (some (.cells (xC w ls QB (.slice none 0 0)) .exact))
  have O:=s4.live x3
  generalize upd g3 (n1+1) (some (.cells (xC w ls QB (.slice none 0 0)) .exact))=g4 at Q O s4
  have j2: ∀(t':Env) {o':Col Cl} {W':QaI} {R:Res} (I:G) (m:Nat),t' 7=ptr (n1+1) 0→R=C.drain S→StH (un w o g3) o' I (n1+1) ls W' w R.2.1 R.1 QB R.2.2→Jam AC K t' I m:=by
   intro t' o' W' R I m t7 eR j
   subst eR
   simp only [Jam,t7,Qd,Qb]
   refine j.outF (λv6 aj=> ?_)
   exact Ja (Sub.refl _) (hK _ _ _ _ _ j.sys j.co (u3.trans j.fr) (aj.less (λ_ h=>h) u3))
  have j1: ∀(t':Env) {o':Col Cl} {W':QaI} {C':Cr} {S':Sys} {evs:List Evt} (b:Bool) (I:G) (m:Nat),t' 7=ptr (n1+1) 0→t' 0=ptr w.lc 0→t' 8= .bool b→(if b then (C'.pop,S',evs) else (C',S',evs))=C.drain S→StH (un w o g3) o' I (n1+1) ls W' w S' C' QB evs→Qm AC K t' I m:=by
   intro t' o' W' C' S' evs b I m t7 t0 t8 eR j
   simp only [Qm,t0,t8]
   cases b with
   | true=>
    refine Ze rfl ?_
    simp only [Qd,Qb]
    refine j.co.ldt (k:=2) rfl ?_
    refine Zgs j.co.hb (λv6 g6 n6 c6 b6=> ?_)
    exact j2 _ (R:=(C'.pop,S',evs)) _ _ t7 eR (j.buf c6 b6)
   | false=>
    refine Jc rfl ?_
    exact j2 _ (R:=(C',S',evs)) _ _ t7 eR j
  have hw:=Y.ok.waits
  have hd:C.drain S=(if e.kind=9 then (if (S.store C.id e.line e.word e.val).2 then (C.pop,(S.store C.id e.line e.word e.val).1,[C.ev 3 e.line e.word e.val]) else (C,(S.store C.id e.line e.word e.val).1,[]))
   else if e.kind=12 then (if (C.flushX S e.line 4).2 then ((C.flushX S e.line 4).1.1.pop,(C.flushX S e.line 4).1.2) else (C.flushX S e.line 4).1)
   else if e.kind=13 then (if (C.flushX S e.line 5).2 then ((C.flushX S e.line 5).1.1.pop,(C.flushX S e.line 5).1.2) else (C.flushX S e.line 5).1)
   else if e.sent then (if C.waits=0 then (C.pop,S,[]) else (C,S,[]))
   else if (C.flushX S e.line 5).2 then ({ (C.flushX S e.line 5).1.1 with b:={ e with sent:=true }::t },(C.flushX S e.line 5).1.2) else (C.flushX S e.line 5).1):=by
   unfold Cr.drain;rw [hb]
  refine Zb O rfl (XaB (Jg (λk9=> ?_) (λk9=> ?_)))
  ·rw [if_pos k9] at hd
   refine Q.co.ldid ?_
   refine Zb O rfl (Zb O rfl (Zb O rfl ?_))
   refine JdL Q.sys (Y.wf.fit hk) _ _ _ _ (λJ I n5 W5 u5 j=> ?_)
   have ae:=Q.sysop u5 j
   have x5:=(QaX o5 O u5).2
   refine Xo (λhh=> ?_) (λhh=> ?_)
   ·rw [if_pos hh] at hd
    refine Zb x5 rfl (Zb x5 rfl (Zb x5 rfl ?_))
    refine Qac ae (by decide) _ _ _ _ (λv6 g6 n6 h6=> ?_)
    refine j1 _ (C':=C) (S':=(S.store C.id e.line e.word e.val).1) (evs:=[C.ev 3 e.line e.word e.val]) true _ _ rfl rfl ?_ hd.symm h6
    show Value.bool _=_;congr 1
   ·rw [if_neg (by rw [hh];decide)] at hd
    refine j1 _ (C':=C) (S':=(S.store C.id e.line e.word e.val).1) (evs:=[]) false _ _ rfl rfl ?_ hd.symm ae
    show Value.bool _=_;congr 1
  rw [if_neg k9] at hd
  have fl: ∀(b:Bool) (kind:Int) (J:Col Cl) (I:G) (n5:Nat) (W5:QaI) (t':Env),t' 7=ptr (n1+1) 0→t' 0=ptr w.lc 0→t' 8= .bool (C.flushX S e.line kind).2→
    C.drain S=(if (C.flushX S e.line kind).2 then ((C.flushX S e.line kind).1.1.pop,(C.flushX S e.line kind).1.2) else (C.flushX S e.line kind).1)→
    StH (un w o g3) J I (n1+1) ls W5 w (C.flushX S e.line kind).1.2.1 (C.flushX S e.line kind).1.1 QB ([]++(C.flushX S e.line kind).1.2.2)→Qm AC K t' I n5:=by
   intro b kind J I n5 W5 t' t7 t0 t8 e5 j
   rw [List.nil_append] at j
   refine j1 t' _ _ _ t7 t0 t8 ?_ j
   rw [e5]
  refine XaB (Jg (λaa=> ?_) (λaa=> ?_))
  ·rw [if_pos aa] at hd
   refine Zb O rfl ?_
   refine JcB Q _ _ (by decide) hw (λJ I n5 W5 j=> ?_)
   exact fl true 4 _ _ _ _ _ rfl rfl rfl hd j
  rw [if_neg aa] at hd
  refine XaB (Jg (λac=> ?_) (λac=> ?_))
  ·rw [if_pos ac] at hd
   refine Zb O rfl ?_
   refine JcB Q _ _ (by decide) hw (λJ I n5 W5 j=> ?_)
   exact fl true 5 _ _ _ _ _ rfl rfl rfl hd j
  rw [if_neg ac] at hd
  have ah:e.kind=14:=by have:=he.kind;omega
  refine Zb O rfl (Xo (λE=> ?_) (λE=> ?_))
  ·rw [if_pos E] at hd
   refine Q.co.ldt (k:=3) rfl (XaB ?_)
   refine Zb O (show (Qj e)[0+4]? =some (.bool e.sent) from rfl) (XaC (Jc (by rw [E];rfl) ?_))
   refine j1 _ (C':=C) (S':=S) (evs:=[]) (decide (C.waits=0)) _ _ rfl rfl rfl ?_ Q
   rw [hd]
   by_cases h0:C.waits=0
   ·rw [if_pos h0,decide_eq_true h0];rfl
   ·rw [if_neg h0,decide_eq_false h0];rfl
  ·rw [if_neg (by rw [E];decide)] at hd
   refine Zb O (show (Qj e)[0+4]? =some (.bool e.sent) from rfl) (XaC (Ze (by rw [E];rfl) ?_))
   refine Zb O rfl ?_
   refine JcB Q _ _ (by decide) hw (λJ I n5 W5 j=> ?_)
   rw [List.nil_append] at j
   refine Xo (λhh=> ?_) (λhh=> ?_)
   ·rw [if_pos hh] at hd
    refine j.co.ldt (k:=2) rfl ?_
    obtain ⟨wv,ak⟩:=Qef C S e.line 5
    have af:=j.co.hb
    have eb:(C.flushX S e.line 5).1.1.b=e::t:=by rw [ak];exact hb
    rw [eb] at af
    refine JfQ af ah (λv6 g6 n6 c6 b6=> ?_)
    refine j1 _ (C':={ (C.flushX S e.line 5).1.1 with b:={ e with sent:=true }::t }) (S':=(C.flushX S e.line 5).1.2.1) (evs:=(C.flushX S e.line 5).1.2.2) false _ _ rfl rfl ?_ hd.symm (j.buf c6 b6)
    show Value.bool _=_;congr 1
   ·rw [if_neg (by rw [hh];decide)] at hd
    refine j1 _ (C':=(C.flushX S e.line 5).1.1) (S':=(C.flushX S e.line 5).1.2.1) (evs:=(C.flushX S e.line 5).1.2.2) false _ _ rfl rfl ?_ hd.symm j
    show Value.bool _=_;congr 1
theorem Xe9 (hs:SysH o g ls W S) (hc:CoH o g w C) {k:Nat} (j:CSok C S k) (I:k<100000) (U: ∀v o' g' n' W',SysH o' g' ls W' (C.drain S).2.1→CoH o' g' w (C.drain S).1→Sub (un w o g) (un w o' g')→Sl Xbb 5 (un w o' g') v (C.drain S).2.2→K v g' n'):
  AC JO [ptr w.lc 0,ptr ls 0] g n K:=
 Jdb hs hc j I λv o' g' n' W' O J E Q=>U v o' g' n' W' O J E (Q.slun JaC (λ_ h=>CW.memL h))
end
end
section
variable {g:G} {n:Nat}
section
variable {F:G} {o:Col Cl} {lx ls:Nat} {W:QaI} {w:CW} {S:Sys} {C:Cr} {K:Cont}
theorem QgZ {a b c:Int} {K:List Value→Prop} (k:K (Xbb ⟨a,b,c,0,0⟩)):Qf [.int .i64 0,.int .i64 0,.int .i64 0,.int .i64 0,.int .u64 0] [(0,none,.int .i64 a),(1,none,.int .i64 b),(2,none,.int .i64 c)] K:=
 ⟨rfl,by decide,rfl,Nat.le_of_ble_eq_true rfl,rfl,Nat.le_of_ble_eq_true rfl,k⟩
theorem QdF (hs:SysH o g ls W S) (hc:CoH o g w C) (hw:0≤C.waits∧C.waits≤16) (m:Ms) (V: ∀v g' n',SysH o g' ls W S→CoH o g' w (C.hear m).1→Sub (un w o g) (un w o g')→Sl Xbb 5 (un w o g') v (C.hear m).2→(∀l,X4 v=some l→g l=none)→K v g' n'):
  AC Zz [ptr w.lc 0,.agg (Zk m).toArray] g n K:=by
 refine ACalls.fold Xb ?_
 rw [←XbI]
 simp only [Zbu,Xe]
 intro hn
 have U:=(Sub.refl g).new hn (some (.cells (Zk m) .exact))
 have Z:upd g n (some (.cells (Zk m) .exact)) n=some (.cells (Zk m) .exact):=Xa _ _ _
 have O:=hs.mono U
 have j:=hc.mono U
 have u1:Sub (un w o g) (un w o (upd g n (some (.cells (Zk m) .exact)))):=JdJ (Sub.uncs hs.live U)
 have mn: ¬w.mem n:=hc.notmem hn
 generalize upd g n (some (.cells (Zk m) .exact))=Q at U Z O j u1
 have nil:(C.hear m)=(C,[])→ ∀m',Zc K (.slice none 0 0) Q m':=by
  intro e m'
  rw [e] at V
  exact Ja (Sub.refl _) (V _ _ _ O j u1 Sl.nil (λ_ h=>nomatch h))
 refine QaE (Xo (λh=>nomatch h) (λ_=> ?_))
 refine Zb Z rfl (Zbq (Jg (λY=>nil (by unfold Cr.hear;rw [if_neg (λk=>Y k.1)]) _) (λY=> ?_)))
 simp only [Qd,Qb]
 refine j.ldt (k:=3) rfl (XaB (Jg (λh2=>nil (by unfold Cr.hear;rw [if_neg (λk=>k.2 h2)]) _) (λh2=> ?_)))
 have e:C.hear m=({ C with waits:=C.waits-1 },[C.ev 6 m.line 0 0]):=by unfold Cr.hear;rw [if_pos ⟨by simpa using Y,h2⟩]
 rw [e] at V
 refine j.ldt (k:=3) rfl ?_
 rw [ZaN,Qg (by omega) (by omega)]
 refine j.st (k:=3) (C':={ C with waits:=C.waits-1 }) (by decide) rfl rfl ?_
 have I:CoH o (upd Q w.lc (some (.cells (coC w { C with waits:=C.waits-1 }) .exact))) w { C with waits:=C.waits-1 }:=j.setC j.rl rfl rfl rfl
 have J:=O.same (QbK j.oc (some (.cells (coC w { C with waits:=C.waits-1 }) .exact)))
 have u2:Sub (un w o g) (un w o (upd Q w.lc (some (.cells (coC w { C with waits:=C.waits-1 }) .exact)))):=by rw [Qhn (.inl rfl)];exact u1
 have x2:upd Q w.lc (some (.cells (coC w { C with waits:=C.waits-1 }) .exact)) n=some (.cells (Zk m) .exact):=by rw [Zd _ _ (λe=>mn (.inl e))];exact Z
 have fr: ∀l,upd Q w.lc (some (.cells (coC w { C with waits:=C.waits-1 }) .exact)) l=none→g l=none:=λl h=>by
  by_cases e:l=w.lc
  ·subst e;rw [Xa] at h;cases h
  ·rw [Zd _ _ e] at h;exact U.none h
 generalize upd Q w.lc (some (.cells (coC w { C with waits:=C.waits-1 }) .exact))=g2 at I J u2 x2 fr
 refine I.ldid ?_
 refine Zb x2 rfl (QgZ (Qfm ?_))
 intro E
 have s3:=(Sub.refl g2).new E (some (.cells (Xbb ⟨6,C.id,m.line,0,0⟩) .exact))
 refine Ja (Sub.refl _) (V _ _ _ (J.mono s3) (I.mono s3) (u2.trans (JdJ (Sub.uncs J.live s3))) ?_ (λl e=>by cases e;exact fr _ E))
 refine Sl.one (JaC _) (bk:= .exact) ?_
 rw [ZdN (I.notmem E) (J.live.fresh E),Xa]
 rfl
theorem Zf4 (hs:SysH o g ls W S) (hc:CoH o g w C) (j:0≤C.waits∧C.waits≤16) (m:Ms) (E: ∀v g' n',SysH o g' ls W S→CoH o g' w (C.hear m).1→Sub (un w o g) (un w o g')→Sl Xbb 5 (un w o g') v (C.hear m).2→K v g' n'):
  AC Zz [ptr w.lc 0,.agg (Zk m).toArray] g n K:=QdF hs hc j m λv g' n' a b c d _=>E v g' n' a b c d
theorem Zf1 (hc:CoH o g w C) (j: ∀n',K (.bool C.runs) g n'):AC QaV [ptr w.lc 0] g n K:=by
 refine ACalls.fold Xb ?_
 rw [←Zc6]
 simp only [Zcx]
 rw [Xck]
 refine Ze rfl ?_
 rw [Qd,Qb]
 exact hc.ldt (k:=4) rfl (Ja (Sub.refl _) (j _))
theorem Xfg (hc:CoH o g w C) (j: ∀n',K (.int .i64 C.waits) g n'):AC XaP [ptr w.lc 0] g n K:=by
 refine ACalls.fold Xb ?_
 rw [←QcQ]
 simp only [Xce]
 refine QaE (Xo (λh=>nomatch h) (λ_=> ?_))
 rw [Qd,Qb]
 exact hc.ldt (k:=3) rfl (Ja (Sub.refl _) (j _))
theorem Xge {e:SE} {K:List Value→Prop} (k:K (Qj e)):Qf (reps 1 [.int .i64 0,.int .i64 0,.int .i64 0,.int .u64 0,.bool false]) [(0,(some 5),(.agg (Qj e).toArray))] K:=⟨rfl,by decide,k⟩
theorem Jgz {lb:Nat} {room:Int} {b:List SE} (h:BufH g lb room b) (hK: ∀v g' n',Sub g g'→Sl Qj 5 g' v b→K v g' n'):AC JaN [ptr lb 0] g n K:=by
 refine ACalls.fold Xb ?_
 rw [←JcT]
 simp only [Zb7]
 refine JcY h (λn1=> ?_)
 obtain ⟨L,f,Y⟩:=h
 have aa:=Y.nl
 refine XA (m:=b.length) (Inv:=λm t J n1=> ∃(j:Nat) (v:Value),m+j=b.length∧t 0=ptr lb 0∧t 3=v∧t 6= .int .i64 (b.length:Nat)∧t 7= .int .i64 (j:Nat)∧Sub g J∧OwnS Qj 5 g J v (b.take j)) ?_
  ⟨0,_,by omega,rfl,rfl,rfl,rfl,Sub.refl _,OwnS.nil⟩
 rintro I m t J n1 ih ⟨j,v,hm,q0,q3,q6,q7,Q,V⟩
 simp only [Qbn]
 rw [q7,q6]
 refine Qcv (Jg (λhj=> ?_) (λhj=> ?_))
 ·have O:j<b.length:=by omega
  obtain ⟨e,he⟩: ∃e,b[j]? =some e:=⟨_,List.getElem?_eq_getElem O⟩
  have E:=Y.mono Q
  rw [q0]
  simp only [Qd,Qb]
  refine ZcO E.len E.fl E.hb (by omega) (by omega) (λn2=> ?_)
  rw [Int.toNat_natCast]
  have Z:(f+j)%16<16:=Nat.mod_lt _ (by decide)
  refine Jeu (by omega) (by omega) ?_
  rw [Qb,Int.toNat_natCast]
  refine E.ent he ?_
  refine Xge ?_
  intro hn
  have s2:=(Sub.refl J).new hn (some (.cells (Qj e) .exact))
  have x2:upd J n2 (some (.cells (Qj e) .exact)) n2=some (.cells (Qj e) .exact):=Xa _ _ _
  rw [q3]
  refine (V.mono s2).append (Q.trans s2) (Sl.one (JB _) x2) Qcm (by decide) (by rw [List.length_take,List.length_singleton];omega) (by rw [List.length_take,List.length_singleton];omega) (λv' g3 n3 k1 k2 _ _=> ?_)
  rw [Jf,JL (by omega)]
  refine ih (m-1) _ _ _ (by omega) ⟨j+1,v',by omega,q0,rfl,q6,rfl,k1,?_⟩
  rw [take_add he];exact k2
 ·have U:b.take j=b:=List.take_of_length_le (by omega)
  rw [q3]
  rw [U] at V
  exact Ja (Sub.refl _) (hK _ _ _ Q V.sl)
theorem ZeU (hc:CoH o g w C) (E: ∀v g' n',Sub g g'→Sl Qj 5 g' v C.b→K v g' n'):AC QaH [ptr w.lc 0] g n K:=by
 refine ACalls.fold Xb ?_
 rw [←XcC]
 simp only [QbW]
 refine QaE (Xo (λh=>nomatch h) (λ_=> ?_))
 rw [Qd,Qb]
 refine hc.ldt (k:=2) rfl ?_
 refine Jgz hc.hb (λv g' n' hs j=> ?_)
 exact Ja (Sub.refl _) (E _ _ _ hs j)
set_option maxRecDepth 100000 in
theorem QeU {room:Int} (I:1≤room∧room≤16) (E: ∀l g' n',g l=none→Sub g g'→BufH g' l room []→K (.tuple #[ptr l 0,.int .i64 0]) g' n'):AC QcH [.int .i64 room] g n K:=by
 refine ACalls.fold Xb ?_
 rw [←Qfb]
 simp only [QfA]
 refine Qcv (Jg (λh=>by omega) (λ_=>Qf9 (Jg (λh=>by omega) (λ_=> ?_))))
 refine ⟨rfl,by decide,?_⟩
 simp only [Xi,Xe]
 intro j
 refine Ja (Sub.refl _) (E _ _ _ j ((Sub.refl g).new j _) ⟨List.replicate 16 Jm,0,by simp,by decide,by simp,(λi e h=>nomatch h),?_⟩)
 rw [Xa]
 rfl
theorem Xhv (k:Nat):reps k [(.int .u32 0),(.int .i32 0),(.int .u32 0),(.int .u64 0),(.int .i64 0),(.int .i64 0),(.int .i64 0),(.int .i64 0),(.int .i64 0),(.bool false)]=((List.replicate k (⟨false,0⟩:Cd)).map Xac).flatten:=Jab (enc:=Xac) ⟨false,0⟩ k
theorem QhW {ds:List Cd} {j:Nat} {u:Int} (J:ds[j]? =some ⟨false,0⟩):(ds.map Xac).flatten.set (j*10+3) (.int .u64 u)=((ds.set j ⟨false,u⟩).map Xac).flatten:=by
 have E: ∀{xs:List Cd} {i:Nat},xs[i]? =some ⟨false,0⟩→(xs.map Xac).flatten.set (i*10+3) (.int .u64 u)=((xs.set i ⟨false,u⟩).map Xac).flatten:=by
  intro xs
  induction xs with
  | nil=>intro i h;cases i<;>cases h
  | cons y ys I=>
   intro i h
   cases i with
   | zero=>
    cases h
    simp only [List.set_cons_zero,List.map_cons,List.flatten_cons,Nat.zero_mul,Nat.zero_add]
    rw [List.set_append_left _ _ (by rw [Xb5];decide)]
    rfl
   | succ i=>
    simp only [List.set_cons_succ,List.map_cons,List.flatten_cons]
    rw [List.set_append_right _ _ (by rw [Xb5];omega),Xb5,show (i+1)*10+3-10=i*10+3 by omega,I h]
 exact E J
set_option maxRecDepth 100000 in
theorem QdE {id room:Int} {v:Value} {us:List Int} (hv:Sl XcO 1 (unc o g) v us) (hL:Live o g) (hid:0≤id∧id<8) (hr:1≤room∧room≤16) (hl:us.length≤4096)
  (hK: ∀(w:CW) g' n',Sub g g'→(∀l,w.mem l→g l=none)→CoH o g' w (Xa3 id room us)→K (.tuple #[ptr w.lc 0,.int .i64 0]) g' n'):AC Qbc [.int .i64 id,.int .i64 room,v] g n K:=by
 have hv:=hv.mono (JZ o g)
 refine ACalls.fold Xb ?_
 rw [←Qe0]
 simp only [Qfn]
 refine Qcv (Jg (λh=>by omega) (λ_=>QeA (Jg (λh=>by omega) (λ_=> ?_))))
 refine QeU hr (λlb V n1 fb s1 b1=> ?_)
 refine Jar rfl (Jar rfl (Zbq (Jc rfl ?_)))
 have Q:=hv.mono s1
 refine Q.len (Qf9 (Jg (λh=>by omega) (λ_=>Q.len ?_)))
 refine ⟨by omega,by omega,by omega,by omega,?_⟩
 intro E
 simp only [Int.toNat_natCast]
 rw [Xhv]
 have s2:=(Sub.refl V).new E (some (.cells ((List.replicate us.length (⟨false,0⟩:Cd)).map Xac).flatten .exact))
 have p2:upd V n1 (some (.cells ((List.replicate us.length (⟨false,0⟩:Cd)).map Xac).flatten .exact)) n1=some (.cells ((List.replicate us.length (⟨false,0⟩:Cd)).map Xac).flatten .exact):=Xa _ _ _
 refine ⟨rfl,by decide,rfl,Nat.le_of_ble_eq_true rfl,rfl,Nat.le_of_ble_eq_true rfl,rfl,Nat.le_of_ble_eq_true rfl,?_⟩
 simp only [Xi,Xe]
 change Zl (coC ⟨n1+1,n1,lb⟩ (Xa3 id room us)) .exact _ _ _
 intro ab
 have O:V (n1+1)=none:=s2.none ab
 have s3:=s2.new ab (some (.cells (coC ⟨n1+1,n1,lb⟩ (Xa3 id room us)) .exact))
 have c3:upd (upd V n1 (some (.cells ((List.replicate us.length (⟨false,0⟩:Cd)).map Xac).flatten .exact))) (n1+1) (some (.cells (coC ⟨n1+1,n1,lb⟩ (Xa3 id room us)) .exact)) (n1+1)=some (.cells (coC ⟨n1+1,n1,lb⟩ (Xa3 id room us)) .exact):=Xa _ _ _
 have p3:upd (upd V n1 (some (.cells ((List.replicate us.length (⟨false,0⟩:Cd)).map Xac).flatten .exact))) (n1+1) (some (.cells (coC ⟨n1+1,n1,lb⟩ (Xa3 id room us)) .exact)) n1=some (.cells ((List.replicate us.length (⟨false,0⟩:Cd)).map Xac).flatten .exact):=by rw [Zd _ _ (by omega)];exact p2
 generalize upd (upd V n1 (some (.cells ((List.replicate us.length (⟨false,0⟩:Cd)).map Xac).flatten .exact))) (n1+1) (some (.cells (coC ⟨n1+1,n1,lb⟩ (Xa3 id room us)) .exact))=g3 at s3 c3 p3
 refine (Q.mono s3).len ?_
 have aa:n1≠lb:=λe=>by
  obtain ⟨L,f,hr⟩:=b1
  rw [e,hr.hb] at E;cases E
 have Y:n1+1≠lb:=λe=>by
  obtain ⟨L,f,hr⟩:=b1
  rw [e,hr.hb] at O;cases O
 refine XA (m:=us.length) (Inv:=λm t g9 n9=> ∃(j:Nat),m+j=us.length∧Sub V g9∧g9 (n1+1)=some (.cells (coC ⟨n1+1,n1,lb⟩ (Xa3 id room us)) .exact)∧
  g9 n1=some (.cells (((us.take j).map (λu=>(⟨false,u⟩:Cd))++List.replicate (us.length-j) (⟨false,0⟩:Cd)).map Xac).flatten .exact)∧t 37=v∧t 10=ptr (n1+1) 0∧t 38= .int .i64 (us.length:Nat)∧t 39= .int .i64 (j:Nat)) ?_
  ⟨0,by omega,s3,c3,p3,rfl,rfl,rfl,rfl⟩
 rintro I m t g9 n9 ih ⟨j,hm,s9,c9,p9,ac,Z,ad,af⟩
 simp only [QdI,ac,Z,ad,af]
 refine Qcv (Jg (λhj=> ?_) (λhj=> ?_))
 ·have ae:j<us.length:=by omega
  obtain ⟨u,U⟩: ∃u,us[j]? =some u:=⟨_,List.getElem?_eq_getElem ae⟩
  refine (Q.mono s9).idx Xfu U (λl o' ha=> ?_)
  rw [Qb]
  refine ha.ld (i:=0) rfl ?_
  rw [Qd,Qb]
  refine Zb c9 (show (coC ⟨n1+1,n1,lb⟩ (Xa3 id room us))[0+10]? =some (.slice (some ⟨n1,0,none⟩) us.length us.length) from rfl) ?_
  refine Zr (by omega) (by omega) ?_
  rw [Qb,Int.toNat_natCast]
  have J:((us.take j).map (λu=>(⟨false,u⟩:Cd))).length=j:=by rw [List.length_map,List.length_take];omega
  have ah:((us.take j).map (λu=>(⟨false,u⟩:Cd))++List.replicate (us.length-j) (⟨false,0⟩:Cd))[j]? =some ⟨false,0⟩:=by
   rw [List.getElem?_append_right (by omega),J,Nat.sub_self,List.getElem?_replicate]
   rw [if_pos (by omega)]
  refine Qz p9 rfl (by rw [Xh Xac 10 Xb5,List.length_append,J,List.length_replicate];omega) rfl ?_
  rw [show 0+j*10+3=j*10+3 by omega,QhW ah]
  rw [Jf,JL (by omega)]
  refine ih (m-1) _ _ _ (by omega) ⟨j+1,by omega,s9.upd_fresh _ E,by rw [Zd _ _ (by omega)];exact c9,?_,ac,Z,ad,rfl⟩
  rw [Xa]
  congr 4
  rw [take_add U,List.map_append,List.set_append_right _ _ (by omega),J,Nat.sub_self,show us.length-j=(us.length-(j+1))+1 by omega,List.replicate_succ]
  simp
 ·simp only [Zdy]
  show Zc K (.tuple #[t 10,.int .i64 0]) g9 n9
  rw [Z]
  refine Ja (Sub.refl _) (hK ⟨n1+1,n1,lb⟩ _ _ (s1.trans s9) ?_ ⟨rfl,hL.fresh (s1.none O),hL.fresh (s1.none E),hL.fresh fb,by show n1+1≠n1;omega,Y,aa,c9,⟨us.map (λu=>(⟨false,u⟩:Cd)),(by rw [List.map_map];exact List.map_id us),?_⟩,b1.mono s9⟩)
  ·rintro l (rfl|rfl|rfl)
   ·exact s1.none O
   ·exact s1.none E
   ·exact fb
  ·have h0:us.length-j=0:=by omega
   have ht:us.take j=us:=List.take_of_length_le (by omega)
   rw [h0,ht,List.replicate_zero,List.append_nil] at p9
   exact p9
end
end
section
variable {g:G} {n:Nat}
theorem XeZ {cs:List Value} {i:Nat} {v:Value} {K:Value→Prop} (h:cs[i]? =some v) (k:K v):Xbf cs i none K:=by
 unfold Xbf
 exact Jci h k
def plainC:Cfg:=⟨2,6,1,1,2,2,2⟩
theorem QdM:plainC.good:=⟨by decide,by decide,by decide,.inl rfl,by decide,by decide,by decide⟩
theorem JfW {K:Cont} (O: ∀g' n',Sub g g'→K (.agg (Ju plainC).toArray) g' n'):AC Qaq [] g n K:=by
 refine ACalls.fold Xb ?_
 rw [←Xb7]
 simp only [Xbn,Xe]
 intro E
 have I:=(Sub.refl g).new E (some (.cells [.int .i64 0,.int .i64 0,.int .i64 0,.int .i64 0,.int .i64 0,.int .i64 0,.int .i64 0] .exact))
 have J:upd g n (some (.cells [.int .i64 0,.int .i64 0,.int .i64 0,.int .i64 0,.int .i64 0,.int .i64 0,.int .i64 0] .exact)) n=some (.cells [.int .i64 0,.int .i64 0,.int .i64 0,.int .i64 0,.int .i64 0,.int .i64 0,.int .i64 0] .exact):=Xa _ _ _
 refine ⟨rfl,by decide,rfl,by decide,rfl,by decide,rfl,by decide,rfl,by decide,rfl,by decide,rfl,by decide,rfl,?_⟩
 refine Xt J rfl (by decide) (by intro v j;simp at j;rcases j with rfl|rfl|rfl|rfl|rfl|rfl|rfl<;>rfl) ?_
 refine Jt (Xa _ _ _) (by decide) ?_
 exact Ja (Sub.refl _) (O _ _ (I.upd_fresh _ E))
def wS0:Sys:=JbV plainC []
def wS1:Sys:=(wS0.store 0 3 1 7).1
def wS2:Sys:=(wS1.up 0).1
def wS3:Sys:=(wS2.hear 0).1
def wS4:Sys:=(wS3.store 0 3 1 7).1
def wS5:Sys:=(wS4.load 1 3 1).1
def wS6:Sys:=(wS5.up 1).1
def wS7:Sys:=(wS6.hear 0).1
def wS8:Sys:=(wS7.answer 0).1
def wS9:Sys:=(wS8.hear 1).1
def wSa:Sys:=(wS9.load 1 3 1).1
theorem e1:(wS0.store 0 3 1 7).2=false:=by kernel_rfl
theorem e2:(wS1.up 0).2=0:=by kernel_rfl
theorem e3:(wS2.hear 0).2.1.kind=10∧(wS2.hear 0).2.2=0:=⟨by kernel_rfl,by kernel_rfl⟩
theorem e4:(wS3.store 0 3 1 7).2=true:=by kernel_rfl
theorem ea:(wS9.load 1 3 1).2.2=true∧(wS9.load 1 3 1).2.1=7:=⟨by kernel_rfl,by kernel_rfl⟩
theorem eb:Xz (wSa.entry 3).share= .int .u8 3:=by kernel_rfl
theorem ec:(wSa.slots 0).length=1:=by kernel_rfl
theorem ed:wSa.c.cores=2:=by kernel_rfl
theorem Xin {S:Sys} {k:Nat} (h:S.wf k): ∀(i:Nat) N,S.nodes[i]? =some N→ ∀m∈N.up,S.line m.line=true:=λi N j m hm=>(h.line _).2 ((h.nd i N j).up.2 m hm)
theorem ZhS {S:Sys} {k:Nat} (h:S.wf k): ∀(i:Nat) N,S.nodes[i]? =some N→ ∀m∈N.ans,S.line m.line=true:=λi N j m hm=>(h.line _).2 ((h.nd i N j).ans.2 m hm)
end
section
variable {g:G} {n:Nat}
section
variable {K:Cont}
def codeF (is:List Ins):List Int:=is.map (λi=>(ZaU i).1)
theorem JeL {v:Value} {is:List Ins} (hv:Sl encI 5 g v is) (aa: ∀i∈is,0≤i.op∧i.op≤22) (hl:is.length≤4096) (hK: ∀O g' n',Sub g g'→OwnS XcO 1 g g' O (codeF is)→K O g' n'):AC X9 [v] g n K:=by
 refine ACalls.fold Xb ?_
 rw [←Qcq]
 simp only [XbG]
 refine XA (m:=is.length) (Inv:=λm t g1 n1=> ∃(j:Nat) (w:Value),m+j=is.length∧t 0=v∧t 3=w∧t 4= .int .i64 (j:Nat)∧Sub g g1∧OwnS XcO 1 g g1 w (codeF (is.take j))) ?_
  ⟨0,_,by omega,rfl,rfl,rfl,Sub.refl _,OwnS.nil⟩
 rintro I m t g1 n1 ih ⟨j,w,hm,q0,q3,q4,V,U⟩
 simp only [Ja6]
 rw [q0,q4,q3]
 have E:=hv.mono V
 refine E.len (Qcv (Jg (λhj=> ?_) (λhj=> ?_)))
 ·have Q:j<is.length:=by omega
  obtain ⟨i,Z⟩: ∃i,is[j]? =some i:=⟨_,List.getElem?_eq_getElem Q⟩
  obtain ⟨h0,h1⟩:=aa i (List.mem_of_getElem? Z)
  refine E.idx J8 Z (λl o ha=> ?_)
  rw [Qb]
  refine ha.ldN (by rw [J8]) ?_
  refine ZeT h0 h1 (λY n2 s2=> ?_)
  refine Jar rfl (Jar rfl ?_)
  refine ⟨rfl,by decide,?_⟩
  rw [Xi]
  change Zl (XcO (ZaU i).1) .exact Y n2 _
  intro hn
  have s3:=(Sub.refl Y).new hn (some (.cells (XcO (ZaU i).1) .exact))
  have x3:upd Y n2 (some (.cells (XcO (ZaU i).1) .exact)) n2=some (.cells (XcO (ZaU i).1) .exact):=Xa _ _ _
  have J:(codeF (is.take j)).length=j:=by unfold codeF;rw [List.length_map,List.length_take];omega
  refine (U.mono (s2.trans s3)).append ((V.trans s2).trans s3) (Sl.one (Xfu _) x3) QcN (by decide) (by rw [J,List.length_singleton];omega) (by rw [J,List.length_singleton];omega) (λO g4 n4 k1 k2 _ _=> ?_)
  rw [Jf,JL (by omega)]
  refine ih (m-1) _ _ _ (by omega) ⟨j+1,O,by omega,q0,rfl,rfl,k1,?_⟩
  have e:codeF (is.take (j+1))=codeF (is.take j)++[(ZaU i).1]:=by unfold codeF;rw [take_add Z,List.map_append];rfl
  rw [e];exact k2
 ·have ab:is.take j=is:=List.take_of_length_le (by omega)
  rw [ab] at U
  exact Ja (Sub.refl _) (hK _ _ _ V U)
theorem Xei {is:List Ins} (j: ∀i∈is,0≤i.op∧i.op≤22): ∀u∈codeF is,0≤u∧u<18446744073709551616:=by
 intro u I
 obtain ⟨i,E,rfl⟩:=List.mem_map.1 I
 unfold ZaU
 split
 ·rename_i J
  exact (Zfc (j i E).1 (j i E).2 J).2
 ·exact ⟨Int.le_refl 0,by decide⟩
theorem Jhw (w:CW) (o:Col Cl) (g:G):Sub (un w o g) g:=(ZhX w o g).trans (JZ o g)
end
end
section
variable {g:G} {n:Nat}
def noG:G:=λ_=>none
section
variable {o:Col Cl} {ls:Nat} {W:QaI} {w:CW} {S:Sys} {C:Cr} {K:Cont} {k:Nat}
theorem OutH.unw {α:Type} {enc:α→List Value} {z:Nat} {F:G} {v:Value} {xs:List α} {o':Col Cl} {g':G} (h:OutH enc z F w.L o g v xs) (k:Sub (un w o g) (un w o' g')):OutH enc z F w.L o' g' v xs:=
 h.keep λl b j I E=>by
  have:=k.live (show un w o g l=some b by rw [ZdN (λh=>j (CW.memL h)) I];exact E)
  exact ⟨(Xbv this).2.1,(Xbv this).2.2⟩
structure AS (o:Col Cl) (g:G) (ls:Nat) (W:QaI) (w:CW) (S:Sys) (C:Cr) (k:Nat) (v:Value) (evs:List Evt):Prop where
 sys:SysH o g ls W S
 co:CoH o g w C
 ok:CSok C S k
 out:OutH Xbb 5 noG w.L o g v evs
variable {v:Value} {evs:List Evt}
theorem AS.app (h:AS o g ls W w S C k v evs) {x:Value} {ys:List Evt} (hx:Sl Xbb 5 g x ys) (J:evs.length+ys.length<1000000) (V: ∀j g' n',AS o g' ls W w S C k j (evs++ys)→K j g' n'):Zs v x 5 40 g n K:=by
 refine h.out.append JaC h.sys.live ?_ (λl b O=>nomatch O) hx JdD (by decide) (by omega) (by omega) (λj Y n2 k1 Z E=> ?_)
 ·obtain ⟨ds,e1,e2⟩:=h.co.hp
  obtain ⟨L,f,Q⟩:=id h.co.hb
  intro l J
  rcases CW.ofL J with rfl|rfl|rfl
  ·exact ⟨_,h.co.hc⟩
  ·exact ⟨_,e2⟩
  ·exact ⟨_,Q.hb⟩
 ·exact V _ _ _ ⟨h.sys.same (λl c e=>k1 l (.inr (.inr (by rw [e];simp)))),h.co.keep (λl b hm I U=>⟨I,(k1 l (.inl (CW.memL hm))).trans U⟩),h.ok,E⟩
theorem Zhc (C:Cr) (S:Sys):(C.exec S).2.2.length≤2:=by
 unfold Cr.exec
 split
 ·exact Nat.zero_le _
 ·split
  ·exact Nat.le_succ 1
  ·split
   ·exact Nat.le_succ 1
   ·unfold Cr.doX
    split
    ·exact Nat.zero_le _
    split
    ·exact Nat.zero_le _
    split
    ·unfold Cr.loadX
     split
     ·exact Nat.le_succ 1
     ·split
      ·exact Nat.le_succ 1
      ·split
       ·exact Nat.le_succ 1
       ·exact Nat.zero_le _
    split
    ·unfold Cr.putX
     split
     ·exact Nat.le_succ 1
     ·split
      ·exact Nat.zero_le _
      ·exact Nat.le_succ 1
    split
    ·unfold Cr.fenceX
     split
     ·exact Nat.le_succ 1
     ·exact Nat.zero_le _
    split
    ·unfold Cr.lockX
     split
     ·exact Nat.le_succ 1
     ·split
      ·exact Nat.zero_le _
      ·split
       ·exact Nat.zero_le _
       ·split
        ·exact Nat.le_refl 2
        ·split
         ·exact Nat.le_refl 2
         ·exact Nat.le_succ 1
    split
    ·exact Nat.le_succ 1
    split
    ·exact Nat.le_succ 1
    ·exact Nat.zero_le _
theorem Jc4 (C:Cr) (S:Sys) (l q:Int):(C.flushX S l q).1.2.2.length≤1:=by
 unfold Cr.flushX
 split
 ·exact Nat.zero_le _
 ·split
  ·exact Nat.zero_le _
  ·exact Nat.le_refl 1
theorem Xgx (C:Cr) (S:Sys):(C.drain S).2.2.length≤1:=by
 unfold Cr.drain
 split
 ·exact Nat.zero_le _
 ·split
  ·split
   ·exact Nat.le_refl 1
   ·exact Nat.zero_le _
  split
  ·split<;>exact Jc4 _ _ _ _
  split
  ·split<;>exact Jc4 _ _ _ _
  split
  ·split<;>exact Nat.zero_le _
  ·split<;>exact Jc4 _ _ _ _
theorem ZgD (C:Cr) (m:Ms):(C.hear m).2.length≤1:=by
 unfold Cr.hear
 split
 ·exact Nat.le_refl 1
 ·exact Nat.zero_le _
theorem AS.exec (h:AS o g ls W w S C k v evs) (j:k+3<100000) (O: ∀x o' g' n' W',AS o' g' ls W' w (C.exec S).2.1 (C.exec S).1 (k+3) v evs→Sl Xbb 5 g' x (C.exec S).2.2→K x g' n'):AC QX [ptr w.lc 0,ptr ls 0] g n K:=
 XfY h.sys h.co h.ok j λx o' g' n' W' I Q E J=>O _ _ _ _ _ ⟨I,Q,h.ok.exec j,h.out.unw E⟩ (J.mono (Jhw _ _ _))
theorem AS.drain (h:AS o g ls W w S C k v evs) (j:k<100000) (O: ∀x o' g' n' W',AS o' g' ls W' w (C.drain S).2.1 (C.drain S).1 (k+1) v evs→Sl Xbb 5 g' x (C.drain S).2.2→K x g' n'):AC JO [ptr w.lc 0,ptr ls 0] g n K:=
 Xe9 h.sys h.co h.ok j λx o' g' n' W' I Q E J=>O _ _ _ _ _ ⟨I,Q,h.ok.drain j,h.out.unw E⟩ (J.mono (Jhw _ _ _))
theorem AS.hearC (h:AS o g ls W w S C k v evs) (m:Ms) (J: ∀x g' n',AS o g' ls W w S (C.hear m).1 k v evs→Sl Xbb 5 g' x (C.hear m).2→K x g' n'):AC Zz [ptr w.lc 0,.agg (Zk m).toArray] g n K:=
 Zf4 h.sys h.co h.ok.ok.waits m λx g' n' E O j I=>J _ _ _ ⟨E,O,h.ok.hearC m,h.out.unw j⟩ (I.mono (Jhw _ _ _))
theorem AS.sysop {o':Col Cl} {g':G} {W':QaI} {S':Sys} {k':Nat} (h:AS o g ls W w S C k v evs) (u:Sub (unc o g) (unc o' g')) (hs:SysH o' g' ls W' S') (hc:CSok C S' k'):AS o' g' ls W' w S' C k' v evs:=
 ⟨hs,h.co.unc u,hc,h.out.unc u⟩
theorem AS.mono {g':G} (h:AS o g ls W w S C k v evs) (s:Sub g g'):AS o g' ls W w S C k v evs:=h.sysop (Sub.uncs h.sys.live s) (h.sys.mono s) h.ok
theorem AS.up (h:AS o g ls W w S C k v evs) (i:Int) (j: ∀x o' g' n' W',AS o' g' ls W' w (S.up i).1 C k v evs→K x g' n'):AC Zat [ptr ls 0,.int .i64 i] g n K:=
 Jft h.sys h.ok.wf.shp (Xin h.ok.wf) _ λo' g' n' W' u h'=>j _ _ _ _ _ (h.sysop u h' (h.ok.up i))
theorem AS.answer (h:AS o g ls W w S C k v evs) (i:Int) (j: ∀x o' g' n' W',AS o' g' ls W' w (S.answer i).1 C k v evs→K x g' n'):AC Q6 [ptr ls 0,.int .i64 i] g n K:=
 Qdg h.sys (ZhS h.ok.wf) _ λo' g' n' W' u h'=>j _ _ _ _ _ (h.sysop u h' (h.ok.answer i))
theorem AS.push (h:AS o g ls W w S C k v evs) (i:Int) (j: ∀x o' g' n' W',AS o' g' ls W' w (S.push i).1 C k v evs→K x g' n'):AC Xah [ptr ls 0,.int .i64 i] g n K:=
 Jd5 h.sys h.ok.wf.shp _ λo' g' n' W' u h'=>j _ _ _ _ _ (h.sysop u h' (h.ok.push i))
theorem AS.drainS (h:AS o g ls W w S C k v evs) (i:Int) (j: ∀x o' g' n' W',AS o' g' ls W' w (S.drain i).1 C k v evs→K x g' n'):AC X8 [ptr ls 0,.int .i64 i] g n K:=
 ZdR h.sys h.ok.wf.shp _ λo' g' n' W' u h'=>j _ _ _ _ _ (h.sysop u h' (h.ok.drainS i))
theorem AS.hear (h:AS o g ls W w S C k v evs) (j:k<100000) (i:Int) (E: ∀o' g' n' W',AS o' g' ls W' w (S.hear i).1 C (k+1) v evs→K (.tuple #[.agg (Zk (S.hear i).2.1).toArray,.int .i64 (S.hear i).2.2]) g' n'):AC QZ [ptr ls 0,.int .i64 i] g n K:=
 Zc4 h.sys (h.ok.wf.fit j) _ λo' g' n' W' u h'=>E _ _ _ _ (h.sysop u h' (h.ok.hear j i))
theorem CSok.le (h:CSok C S k) {k':Nat} (j:k≤k'):CSok C S k':=⟨h.ok,h.cn,h.wf.le j,h.sn⟩
end
end
section
section
variable {a b c d e:Int} {K:List Value→Prop}
theorem fI0 (k:K (encI ⟨a,0,0,0,0⟩)):Qf (encI QB) [(0,none,.int .i64 a)] K:=⟨rfl,by decide,k⟩
theorem Xip (k:K (encI ⟨a,b,0,0,0⟩)):Qf (encI QB) [(0,none,.int .i64 a),(1,none,.int .i64 b)] K:=⟨rfl,by decide,rfl,Nat.le_of_ble_eq_true rfl,k⟩
theorem QhQ (k:K (encI ⟨a,b,0,0,e⟩)):Qf (encI QB) [(0,none,.int .i64 a),(1,none,.int .i64 b),(4,none,.int .i64 e)] K:=⟨rfl,by decide,rfl,Nat.le_of_ble_eq_true rfl,rfl,Nat.le_of_ble_eq_true rfl,k⟩
def ZbL:Nat→List Ins→List (Nat×Option Nat×Value)
 | _,[]=>[]
 | j,i::r=>(j*5,some 5,.agg (encI i).toArray)::ZbL (j+1) r
theorem JfB: ∀(is done:List Ins),K (((done++is).map encI).flatten)→Qf ((done.map encI).flatten++reps is.length (encI QB)) (ZbL done.length is) K
 | [],done,k=>by
  simp only [ZbL,Xi]
  simpa [reps] using k
 | i::r,done,k=>by
  have j:(done.map encI).flatten.length=done.length*5:=Xh encI 5 J8 done
  have E:(reps (i::r).length (encI QB)).length=(r.length+1)*5:=by simp [reps,J8]
  refine ⟨J8 _,by rw [List.length_append,j,E];omega,?_⟩
  have e:splice ((done.map encI).flatten++reps (i::r).length (encI QB)) (done.length*5) (encI i)=((done++[i]).map encI).flatten++reps r.length (encI QB):=by
   unfold splice
   rw [List.take_left' j,J8,←j,List.drop_append,List.drop_of_length_le (by omega),show (List.map encI done).flatten.length+5-(List.map encI done).flatten.length=5 by omega]
   have e2:reps (i::r).length (encI QB)=encI QB++reps r.length (encI QB):=by simp [reps,List.replicate_succ]
   rw [e2,List.drop_left' (J8 _)]
   simp
  have:=JfB r (done++[i]) (by simpa using k)
  rw [List.length_append,List.length_singleton] at this
  show Qf (splice _ (done.length*5) (encI i)) (ZbL (done.length+1) r) K
  rw [e];exact this
theorem Qhm {is:List Ins} (k:K ((is.map encI).flatten)):Qf (reps is.length (encI QB)) (ZbL 0 is) K:=by
 have:=JfB (K:=K) is [] (by simpa using k)
 simpa using this
end
end
section
structure Act where
 kind:Int
 core:Int
 line:Int
structure Mc where
 S:Sys
 cs:List Cr
 rc:List Int
 fails:Int
abbrev Qhi:=Mc×List Evt
def Mc.setC (M:Mc) (k:Nat) (R:Res):Qhi:=(⟨R.2.1,M.cs.set k R.1,M.rc,M.fails⟩,R.2.2)
def Mc.withS (M:Mc) (S:Sys):Mc:={ M with S:=S }
def Mc.onC (M:Mc) (i:Int) (f:Cr→Res):Qhi:=if 0≤i then (match M.cs[i.toNat]? with|none=>(M,[])|some C=>M.setC i.toNat (f C)) else (M,[])
def ZfN (line:Int):List Evt:=[⟨5,0,line,0,0⟩]
def Mc.hearX (M:Mc) (H:Sys×Ms×Int) (i:Int):Qhi:=if H.2.2≠0 then (M.withS H.1,[]) else (M.withS H.1).onC i λC=>((C.hear H.2.1).1,H.1,(C.hear H.2.1).2)
def Mc.pushX (M:Mc) (P:Sys×Int) (line:Int) (said:Bool):Qhi:=(M.withS P.1,if P.2≠0∨said=false then [] else ZfN line)
def Ja5 (room:Int) (rc:List Int) (n:Nat):List Cr:=(List.range n).map λi=>if i=0 then Xa3 0 room rc else { Xa3 (i:Nat) room [] with runs:=false }
def Mc.failX (M:Mc):Qhi:=(⟨M.S.fail,Ja5 M.S.c.store M.rc M.cs.length,M.rc,M.fails+1⟩,[⟨11,0,0,0,0⟩])
def Mc.do (M:Mc) (a:Act):Qhi:=
 if a.kind=1 then M.onC a.core (λC=>C.exec M.S) else if a.kind=2 then M.onC a.core (λC=>C.drain M.S)
 else if a.kind=3 then (M.withS (M.S.up a.core).1,[]) else if a.kind=4 then (M.withS (M.S.answer a.core).1,[])
 else if a.kind=5 then M.hearX (M.S.hear a.core) a.core else if a.kind=6 then M.pushX (M.S.push a.line) a.line true
 else if a.kind=7 then (M.withS (M.S.evict a.core a.line).1,[]) else if a.kind=8 then M.pushX (M.S.drop a.line) a.line (M.S.entry a.line).dirty
 else if a.kind=9 then (M.withS (M.S.drain a.line).1,[]) else if a.kind=10 then M.failX else (M,[])
def Za2:Mc→List Act→Qhi
 | M,[]=>(M,[])
 | M,a::l=>((Za2 (M.do a).1 l).1,(M.do a).2++(Za2 (M.do a).1 l).2)
def JfX (c:Cfg) (img:List Ln) (ps:List (List Int)) (rc:List Int):Mc:=⟨JbV c img,(List.range ps.length).map (λi=>Xa3 (i:Nat) c.store (ps.getD i [])),rc,0⟩
def Sys.calmAt (S:Sys) (i:Nat):Bool:=(S.queues (i:Nat)).1.isEmpty&&(S.queues (i:Nat)).2.1.isEmpty&&(S.queues (i:Nat)).2.2.isEmpty&&(S.slots (i:Nat)).all (λs=>decide (s.state≤3))
def Mc.calmC (M:Mc) (i:Nat):Bool:=(match M.cs[i]? with|none=>true|some C=> !C.runs&&C.still)&&M.S.calmAt i
def Mc.quiet (M:Mc):Bool:=(List.range M.cs.length).all M.calmC&&(List.range M.S.c.lines.toNat).all (λl=>decide ((M.S.entry (l:Nat)).busy=0))
structure Mc.ok (M:Mc) (k:Nat):Prop where
 wf:M.S.wf k
 sn:M.S.nn
 cs: ∀(i:Nat) C,M.cs[i]? =some C→C.ok∧C.nn∧C.id=(i:Nat)∧C.room=M.S.c.store
 len:M.cs.length=M.S.c.cores.toNat
 rl:M.rc.length≤4096
 ru: ∀u∈M.rc,0≤u∧u<18446744073709551616
 fl:0≤M.fails∧M.fails≤k
section
variable {M:Mc} {k:Nat}
theorem Mc.ok.co (h:M.ok k) {i:Nat} {C:Cr} (e:M.cs[i]? =some C):CSok C M.S k:=⟨(h.cs i C e).1,(h.cs i C e).2.1,h.wf,h.sn⟩
theorem Mc.ok.le (h:M.ok k) {k':Nat} (j:k≤k'):M.ok k':=⟨h.wf.le j,h.sn,h.cs,h.len,h.rl,h.ru,by have:=h.fl;omega⟩
theorem Mc.ok.setC (h:M.ok k) {i:Nat} {C:Cr} (e:M.cs[i]? =some C) {R:Res} {k':Nat} (J:CSok R.1 R.2.1 k') (Q:k≤k') (hid:R.1.id=C.id) (I:R.1.room=C.room) (hc:R.2.1.c=M.S.c):(M.setC i R).1.ok k':=by
 refine ⟨J.wf,J.sn,λj D O=> ?_,by show (M.cs.set i R.1).length=R.2.1.c.cores.toNat;rw [hc,List.length_set];exact h.len,h.rl,h.ru,by have:=h.fl;show 0≤M.fails∧M.fails≤_;omega⟩
 have E:(M.cs.set i R.1)[j]? =some D:=O
 show D.ok∧D.nn∧D.id=_∧D.room=R.2.1.c.store
 rw [hc]
 by_cases hij:i=j
 ·subst hij
  rw [List.getElem?_set_self (Xg e)] at E
  cases E
  obtain ⟨_,_,c,d⟩:=h.cs i C e
  exact ⟨J.ok,J.cn,hid.trans c,I.trans d⟩
 ·rw [List.getElem?_set_ne hij] at E
  exact h.cs j D E
theorem Mc.ok.withS (h:M.ok k) {S:Sys} {k':Nat} (O:k≤k') (E:S.wf k') (J:S.nn) (hc:S.c=M.S.c):(M.withS S).ok k':=
 ⟨E,J,λj D I=>by show D.ok∧D.nn∧D.id=_∧D.room=S.c.store;rw [hc];exact h.cs j D I,by show M.cs.length=S.c.cores.toNat;rw [hc];exact h.len,h.rl,h.ru,by have:=h.fl;show 0≤M.fails∧M.fails≤_;omega⟩
end
end
section
section
variable {S:Sys} {C:Cr} {k:Nat}
theorem Xen (line:Int): ∀(l:List Snd) (S:Sys),(S.sends line l).c=S.c
 | [],_=>rfl
 | x::l,S=>by
  show ((S.send1 line x).sends line l).c=S.c
  rw [Xen line l,Jgg]
theorem Xe8 (S:Sys) (core l w v:Int):(S.store core l w v).1.c=S.c:=by unfold Sys.store;split;rfl;split<;>rfl
theorem Jed (S:Sys) (core l:Int):(S.reach core l).1.c=S.c:=by unfold Sys.reach;split;rfl;split<;>rfl
theorem Qhx (S:Sys) (core l:Int):(S.evict core l).1.c=S.c:=by unfold Sys.evict;split;rfl;split<;>rfl
theorem JhF (S:Sys) (core l q:Int):(S.flush core l q).1.c=S.c:=by
 unfold Sys.flush
 split
 ·rfl
 ·split
  ·rfl
  ·split<;>rfl
theorem Qiq (S:Sys) (core:Int):(S.up core).1.c=S.c:=by
 unfold Sys.up
 split
 ·rfl
 ·split
  ·rfl
  ·split
   ·rfl
   ·split
    ·rfl
    ·split
     ·exact Zfx _ _ _
     ·rw [Xen];exact Zfx _ _ _
theorem JgY (S:Sys) (core:Int):(S.answer core).1.c=S.c:=by
 unfold Sys.answer
 split
 ·rfl
 ·split
  ·rfl
  ·split
   ·rfl
   ·split
    ·rfl
    ·rw [Xen];rfl
theorem Jhi (S:Sys) (core:Int):(S.hear core).1.c=S.c:=by
 unfold Sys.hear
 split
 ·rfl
 ·split<;>rfl
theorem Xh2 (S:Sys) (line:Int):(S.push line).1.c=S.c:=by
 unfold Sys.push
 split
 ·rfl
 ·split
  ·rfl
  ·split
   ·exact Zc3 _ _ _
   ·split
    ·exact Zc3 _ _ _
    ·rw [Xen];exact Zc3 _ _ _
theorem XhZ (S:Sys) (line:Int):(S.drop line).1.c=S.c:=by
 unfold Sys.drop
 split
 ·rfl
 ·split
  ·rfl
  ·split
   ·exact Zc3 _ _ _
   ·exact Zc3 _ _ _
theorem JgX (S:Sys) (line:Int):(S.drain line).1.c=S.c:=by unfold Sys.drain;split<;>rfl
theorem ZhZ (C:Cr) (S:Sys):(C.exec S).2.1.c=S.c:=by
 unfold Cr.exec
 split
 ·rfl
 ·split
  ·rfl
  ·split
   ·rfl
   ·unfold Cr.doX
    split
    ·rfl
    split
    ·rfl
    split
    ·unfold Cr.loadX
     split
     ·rfl
     ·split
      ·rfl
      ·split<;>exact Qfz _ _ _ _
    split
    ·unfold Cr.putX
     split
     ·rfl
     ·split<;>rfl
    split
    ·unfold Cr.fenceX
     split<;>rfl
    split
    ·unfold Cr.lockX
     split
     ·rfl
     ·split
      ·rfl
      ·split
       ·exact Jed _ _ _
       ·split
        ·exact (Xe8 _ _ _ _ _).trans ((Qfz _ _ _ _).trans (Jed _ _ _))
        ·split
         ·exact (Xe8 _ _ _ _ _).trans ((Qfz _ _ _ _).trans (Jed _ _ _))
         ·exact (Qfz _ _ _ _).trans (Jed _ _ _)
    split
    ·rfl
    split<;>rfl
theorem Xef (C:Cr) (S:Sys) (l q:Int):(C.flushX S l q).1.2.1.c=S.c:=by
 unfold Cr.flushX
 split
 ·rfl
 ·split<;>exact JhF _ _ _ _
theorem Xhf (C:Cr) (S:Sys):(C.drain S).2.1.c=S.c:=by
 unfold Cr.drain
 split
 ·rfl
 ·split
  ·split<;>exact Xe8 _ _ _ _ _
  split
  ·split<;>exact Xef _ _ _ _
  split
  ·split<;>exact Xef _ _ _ _
  split
  ·split<;>rfl
  ·split<;>exact Xef _ _ _ _
theorem Sys.nn.drop (h:S.nn) (line:Int):(S.drop line).1.nn:=by
 unfold Sys.drop
 split
 ·exact h
 ·rename_i i e he
  obtain ⟨_,E⟩:=Sys.ent_some he
  have j:=h.write E
  split
  ·exact h
  ·split
   ·exact j
   ·exact j.setE _ Zx
theorem Xgl: ∀(es:List En) (D:Dev),(∀l∈D.mem,l.nn)→(∀e∈es,e.data.nn)→ ∀l∈(D.puts es).mem,l.nn
 | [],_,h,_=>h
 | e::es,D,h,he=>by
  show ∀l∈((D.put e.line e.data).puts es).mem,l.nn
  exact Xgl es _ (Jhm h _ (he e (List.mem_cons_self ..))) (λx hx=>he x (List.mem_cons_of_mem _ hx))
theorem Qfr {D:Dev} (h: ∀l∈D.mem,l.nn): ∀l∈D.fail.mem,l.nn:=by
 intro l j
 rcases List.mem_append.1 (show l∈List.replicate D.vol zeroL++D.mem.drop D.vol from j) with j|j
 ·rw [(List.mem_replicate.1 j).2];exact Zx
 ·exact h l (List.mem_of_mem_drop j)
theorem Jfr {c:Cfg} {D:Dev} (E: ∀l∈D.mem,l.nn):(⟨c,List.replicate c.cores.toNat (nd0 c),List.replicate c.lines.toNat ZK,[],D⟩:Sys).nn:=by
 refine ⟨λi N j=> ?_,λe he=> ?_,(λe he=>nomatch he),E⟩
 ·have:N=nd0 c:=(List.mem_replicate.1 (List.mem_of_getElem? (show (List.replicate c.cores.toNat (nd0 c))[i]? =some N from j))).2
  subst this
  exact ⟨QgI _ _,MsN.nil,MsN.nil,MsN.nil⟩
 ·rw [(List.mem_replicate.1 (show e∈List.replicate c.lines.toNat ZK from he)).2];exact Zx
theorem Sys.nn.fail (h:S.nn):S.fail.nn:=Jfr (Qfr (Xgl _ _ h.mem h.q))
theorem QfU (c:Cfg) {img:List Ln} (j: ∀l∈img,l.nn):(JbV c img).nn:=by
 refine Jfr ?_
 unfold QhO
 split
 ·intro l E
  rw [(List.mem_replicate.1 E).2];exact Zx
 ·exact Qfr j
end
theorem QfP {room:Int} {rc:List Int} {n i:Nat} {C:Cr} (h:(Ja5 room rc n)[i]? =some C):i<n∧C=if i=0 then Xa3 0 room rc else { Xa3 (i:Nat) room [] with runs:=false }:=by
 unfold Ja5 at h
 rw [List.getElem?_map] at h
 have j:i<n:=by
  by_cases j:i<n
  ·exact j
  ·rw [List.getElem?_eq_none (by rw [List.length_range];omega)] at h;cases h
 rw [List.getElem?_range j] at h
 cases h
 exact ⟨j,rfl⟩
section
variable {M:Mc} {k:Nat}
theorem Mc.ok.onC (h:M.ok k) (i:Int) (f:Cr→Res) {k':Nat} (j:k≤k') (E: ∀C,CSok C M.S k→CSok (f C).1 (f C).2.1 k'∧(f C).1.id=C.id∧(f C).1.room=C.room∧(f C).2.1.c=M.S.c):(M.onC i f).1.ok k':=by
 unfold Mc.onC
 split
 ·split
  ·exact h.le j
  ·rename_i C e
   obtain ⟨a,b,c,d⟩:=E C (h.co e)
   exact h.setC e a j b c d
 ·exact h.le j
theorem Mc.ok.do (h:M.ok k) (U:k+3<100000) (a:Act):(M.do a).1.ok (k+3):=by
 unfold Mc.do
 split
 ·exact h.onC _ _ (by omega) λC I=>⟨I.exec U,(Jev C _).2.1,(Jev C _).1,ZhZ _ _⟩
 split
 ·exact h.onC _ _ (by omega) λC I=>⟨(I.drain (by omega)).le (by omega),(Xeb C _).2.1,(Xeb C _).1,Xhf _ _⟩
 split
 ·exact h.withS (by omega) ((h.wf.up _).le (by omega)) (h.sn.up _) (Qiq _ _)
 split
 ·exact h.withS (by omega) ((h.wf.answer _).le (by omega)) (h.sn.answer _) (JgY _ _)
 split
 ·unfold Mc.hearX
  have J:=h.withS (k':=k+3) (by omega) ((h.wf.hear (by omega) a.core).le (by omega)) (h.sn.hear a.core) (Jhi _ _)
  split
  ·exact J
  ·exact J.onC _ _ (by omega) λC I=>⟨I.hearC _,(XeT C _).2.1,(XeT C _).1,rfl⟩
 split
 ·exact h.withS (by omega) ((h.wf.push _).le (by omega)) (h.sn.push _) (Xh2 _ _)
 split
 ·exact h.withS (by omega) ((h.wf.evict (by omega) _ _).le (by omega)) (h.sn.evict _ _) (Qhx _ _ _)
 split
 ·exact h.withS (by omega) ((h.wf.drop _).le (by omega)) (h.sn.drop _) (XhZ _ _)
 split
 ·exact h.withS (by omega) ((h.wf.drain _).le (by omega)) (h.sn.drain _) (JgX _ _)
 split
 ·have E:=h.wf.c.store
  refine ⟨h.wf.fail _,h.sn.fail,λi C Q=> ?_,?_,h.rl,h.ru,by have:=h.fl;show 0≤M.fails+1∧M.fails+1≤_;omega⟩
  ·obtain ⟨_,rfl⟩:=QfP (show (Ja5 M.S.c.store M.rc M.cs.length)[i]? =some C from Q)
   by_cases e:i=0
   ·rw [if_pos e,e]
    exact ⟨Xdq E h.rl h.ru,Jdp _ _ _,rfl,rfl⟩
   ·rw [if_neg e]
    have j:(Xa3 (i:Nat) M.S.c.store []).ok:=Xdq E (by decide) (λ_ h=>nomatch h)
    have O:=Jdp (i:Nat) M.S.c.store []
    exact ⟨⟨j.r,j.place,j.us,j.u,j.room,j.b,j.e,j.waits⟩,⟨O.r,O.b⟩,rfl,rfl⟩
  ·show (Ja5 M.S.c.store M.rc M.cs.length).length=M.S.c.cores.toNat
   unfold Ja5
   rw [List.length_map,List.length_range];exact h.len
 ·exact h.le (by omega)
end
end
section
section
variable {M:Mc} {k:Nat}
theorem Mc.quiet_core (h:M.quiet=true) {i:Nat} {C:Cr} (e:M.cs[i]? =some C):C.runs=false∧C.still=true∧M.S.calmAt i=true:=by
 unfold Mc.quiet at h
 rw [Bool.and_eq_true] at h
 have j:=List.all_eq_true.1 h.1 i (List.mem_range.2 (Xg e))
 unfold Mc.calmC at j
 rw [e] at j
 simp only [Bool.and_eq_true,Bool.not_eq_true'] at j
 exact ⟨j.1.1,j.1.2,j.2⟩
theorem Mc.quiet_at (h:M.quiet=true) (I:M.ok k) {i:Nat} {N:Nd} (e:M.S.nodes[i]? =some N):N.up=[]∧N.ans=[]∧N.dn=[]:=by
 have J:i<M.cs.length:=by rw [I.len,←I.wf.nodes];exact Xg e
 obtain ⟨_,_,j⟩:=Mc.quiet_core h (List.getElem?_eq_getElem J)
 have E:M.S.at (i:Nat)=some (i,N):=by
  unfold Sys.at
  rw [if_pos (by omega),Int.toNat_natCast,e];rfl
 unfold Sys.calmAt Sys.queues at j
 rw [E] at j
 simp only [Bool.and_eq_true,List.isEmpty_iff] at j
 exact ⟨j.1.1.1,j.1.1.2,j.1.2⟩
theorem Mc.quiet_ent (h:M.quiet=true) (J:M.ok k) {line:Int} {i:Nat} {e:Ent} (he:M.S.ent line=some (i,e)):e.busy=0:=by
 obtain ⟨rfl,E⟩:=Sys.ent_some he
 unfold Mc.quiet at h
 rw [Bool.and_eq_true] at h
 have I:=List.all_eq_true.1 h.2 i (List.mem_range.2 (by rw [←J.wf.dir];exact Xg E))
 have j:=of_decide_eq_true I
 unfold Sys.entry at j
 rw [he] at j;exact j
theorem Mc.onC_same (i:Int) (f:Cr→Res) (j: ∀C,M.cs[i.toNat]? =some C→f C=(C,M.S,[])):M.onC i f=(M,[]):=by
 unfold Mc.onC
 split
 ·split
  ·rfl
  ·rename_i C e
   rw [j C e]
   show ((⟨M.S,M.cs.set i.toNat C,M.rc,M.fails⟩:Mc),[])=_
   rw [set_self e]
 ·rfl
theorem Mc.quiet_do (h:M.quiet=true) (O:M.ok k) {a:Act} (J: ¬(7≤a.kind∧a.kind≤10)):M.do a=(M,[]):=by
 unfold Mc.do
 split
 ·exact Mc.onC_same _ _ λC e=>by
   obtain ⟨I,_,_⟩:=Mc.quiet_core h e
   unfold Cr.exec
   rw [if_pos I]
 split
 ·exact Mc.onC_same _ _ λC e=>by
   obtain ⟨_,I,_⟩:=Mc.quiet_core h e
   have hb:C.b=[]:=by
    unfold Cr.still at I
    rw [Bool.and_eq_true,List.isEmpty_iff] at I
    exact I.1
   unfold Cr.drain
   rw [hb]
 split
 ·have e:(M.S.up a.core).1=M.S:=by
   unfold Sys.up
   split
   ·rfl
   ·rename_i i N j
    obtain ⟨_,E⟩:=Sys.at_some j
    rw [(Mc.quiet_at h O E).1]
  rw [e];rfl
 split
 ·have e:(M.S.answer a.core).1=M.S:=by
   unfold Sys.answer
   split
   ·rfl
   ·rename_i i N j
    obtain ⟨_,E⟩:=Sys.at_some j
    rw [(Mc.quiet_at h O E).2.1]
  rw [e];rfl
 split
 ·have e: ∃q,q≠0∧M.S.hear a.core=(M.S,Xm,q):=by
   unfold Sys.hear
   split
   ·exact ⟨1,by decide,rfl⟩
   ·rename_i i N j
    obtain ⟨_,E⟩:=Sys.at_some j
    rw [(Mc.quiet_at h O E).2.2]
    exact ⟨14,by decide,rfl⟩
  obtain ⟨q,hq,e⟩:=e
  rw [e]
  unfold Mc.hearX
  rw [if_pos hq];rfl
 split
 ·have e: ∃q,q≠0∧M.S.push a.line=(M.S,q):=by
   unfold Sys.push
   split
   ·exact ⟨1,by decide,rfl⟩
   ·rename_i i e he
    have hb:=Mc.quiet_ent h O he
    have Q:Zcg e=false:=by
     unfold Zcg
     rw [hb]
     simp
    rw [if_pos Q]
    exact ⟨16,by decide,rfl⟩
  obtain ⟨q,hq,e⟩:=e
  rw [e]
  unfold Mc.pushX
  rw [if_pos (.inl hq)];rfl
 split
 ·exact absurd (by omega) J
 split
 ·exact absurd (by omega) J
 split
 ·exact absurd (by omega) J
 split
 ·exact absurd (by omega) J
 ·rfl
end
end
section
variable {g:G} {n:Nat}
def ownB (ws:List CW) (lm lk l:Nat):Bool:=ws.any (λw=>decide (w.mem l))||decide (l=lm)||decide (l=lk)
def unm (ws:List CW) (lm lk:Nat) (o:Col Cl) (g:G):G:=λl=>if ownB ws lm lk l=true then none else unc o g l
theorem ownB_f {ws:List CW} {lm lk l:Nat}:ownB ws lm lk l=false↔(∀w∈ws,¬w.mem l)∧l≠lm∧l≠lk:=by
 unfold ownB
 rw [Bool.or_eq_false_iff,Bool.or_eq_false_iff,List.any_eq_false]
 simp only [decide_eq_true_eq,decide_eq_false_iff_not]
 exact ⟨λh=>⟨h.1.1,h.1.2,h.2⟩,λh=>⟨⟨h.1,h.2.1⟩,h.2.2⟩⟩
section
variable {ws:List CW} {lm lk:Nat} {o o':Col Cl} {g':G}
theorem XcR {l:Nat} {b:Blk} (h:unm ws lm lk o g l=some b):(∀w∈ws,¬w.mem l)∧l≠lm∧l≠lk∧o l=none∧g l=some b:=by
 unfold unm at h
 split at h
 ·cases h
 ·rename_i hm
  obtain ⟨a,b,c⟩:=ownB_f.1 (by simpa using hm)
  unfold unc at h
  split at h
  ·rename_i j;exact ⟨a,b,c,j,h⟩
  ·cases h
theorem ZcP {l:Nat} (E: ∀w∈ws,¬w.mem l) (I:l≠lm) (j:l≠lk) (J:o l=none):unm ws lm lk o g l=g l:=by
 unfold unm
 rw [if_neg (by rw [ownB_f.2 ⟨E,I,j⟩];exact Bool.noConfusion),Zp J]
theorem unm_sub:Sub (unm ws lm lk o g) (unc o g):=λl=>by
 unfold unm
 split
 ·exact .inl rfl
 ·exact .inr rfl
theorem Zbo:Sub (unm ws lm lk o g) g:=unm_sub.trans (JZ o g)
theorem JcR {F H:G} (h: ∀l b,F l=some b→H l=some b):Sub F H:=λl=>by
 cases e:F l with
 | none=>exact .inl rfl
 | some b=>exact .inr (h l b e).symm
theorem Zfs {w:CW} (I:w∈ws) (h:Sub (un w o g) (un w o' g')):Sub (unm ws lm lk o g) (unm ws lm lk o' g'):=JcR λl b e=>by
 obtain ⟨a,J,c,d,e1⟩:=XcR e
 obtain ⟨_,j,E⟩:=Xbv (h.live (show un w o g l=some b by rw [ZdN (a w I) d];exact e1))
 rw [ZcP a J c j];exact E
theorem ZaR (h:Sub (unc o g) (unc o' g')):Sub (unm ws lm lk o g) (unm ws lm lk o' g'):=JcR λl b e=>by
 obtain ⟨a,I,c,d,e1⟩:=XcR e
 obtain ⟨j,E⟩:=QaX d e1 h
 rw [ZcP a I c j];exact E
end
structure MH (o:Col Cl) (g:G) (ls lm lk:Nat) (vr:Value) (W:QaI) (ws:List CW) (M:Mc):Prop where
 sys:SysH o g ls W M.S
 len:ws.length=M.cs.length
 co: ∀(i:Nat) w C,ws[i]? =some w→M.cs[i]? =some C→CoH o g w C
 dis: ∀(i j:Nat) w w',i≠j→ws[i]? =some w→ws[j]? =some w'→ ∀l,w.mem l→ ¬w'.mem l
 om:o lm=none
 ok:o lk=none
 nm: ∀w∈ws,¬w.mem lm∧ ¬w.mem lk
 ne:lm≠lk
 obj: ∃c,g lm=some (.cells [ptr ls 0,.slice (some ⟨lk,0,none⟩) ws.length c,vr,.int .i64 M.fails] .exact)
 cores: ∃bk,bk.rw=true∧g lk=some (.cells (ws.map λw=>ptr w.lc 0) bk)
 rc:Sl XcO 1 (unm ws lm lk o g) vr M.rc
section
variable {o o':Col Cl} {g':G} {ls lm lk:Nat} {vr:Value} {W W':QaI} {ws:List CW} {M:Mc} {S':Sys} {K:Cont}
theorem MH.sysop (h:MH o g ls lm lk vr W ws M) (u:Sub (unc o g) (unc o' g')) (hs:SysH o' g' ls W' S'):MH o' g' ls lm lk vr W' ws (M.withS S'):=by
 obtain ⟨c,hc⟩:=h.obj
 obtain ⟨bk,j,I⟩:=h.cores
 obtain ⟨J,E⟩:=QaX h.om hc u
 obtain ⟨Q,O⟩:=QaX h.ok I u
 exact ⟨hs,h.len,λi w C e1 e2=>(h.co i w C e1 e2).unc u,h.dis,J,Q,h.nm,h.ne,⟨c,E⟩,⟨bk,j,O⟩,h.rc.mono (ZaR u)⟩
theorem MH.mono (h:MH o g ls lm lk vr W ws M) (s:Sub g g'):MH o g' ls lm lk vr W ws M:=h.sysop (Sub.uncs h.sys.live s) (h.sys.mono s)
theorem MH.other (h:MH o g ls lm lk vr W ws M) {i j:Nat} {w w':CW} (E:i≠j) (e1:ws[i]? =some w) (e2:ws[j]? =some w') {D:Cr} (J:CoH o g w' D) (u:Sub (un w o g) (un w o' g')):CoH o' g' w' D:=
 J.keep λl b hm Q O=>by
  obtain ⟨_,a,b⟩:=Xbv (u.live (show un w o g l=some b by rw [ZdN (λI=>h.dis i j w w' E e1 e2 l I hm) Q];exact O))
  exact ⟨a,b⟩
theorem MH.coreop (h:MH o g ls lm lk vr W ws M) {i:Nat} {w:CW} {R:Res} (e:ws[i]? =some w) (u:Sub (un w o g) (un w o' g')) (hs:SysH o' g' ls W' R.2.1) (hc:CoH o' g' w R.1):MH o' g' ls lm lk vr W' ws (M.setC i R).1:=by
 obtain ⟨c,J⟩:=h.obj
 obtain ⟨bk,I,Q⟩:=h.cores
 have O:=List.mem_of_getElem? e
 obtain ⟨n1,n2⟩:=h.nm w O
 obtain ⟨_,Z,Y⟩:=Xbv (u.live (show un w o g lm=some _ by rw [ZdN n1 h.om];exact J))
 obtain ⟨_,V,U⟩:=Xbv (u.live (show un w o g lk=some _ by rw [ZdN n2 h.ok];exact Q))
 refine ⟨hs,?_,λj w' D e1 e2=> ?_,h.dis,Z,V,h.nm,h.ne,⟨c,Y⟩,⟨bk,I,U⟩,h.rc.mono (Zfs O u)⟩
 ·show _=(M.cs.set i R.1).length
  rw [List.length_set];exact h.len
 ·have E:(M.cs.set i R.1)[j]? =some D:=e2
  by_cases hij:i=j
  ·subst hij
   rw [List.getElem?_set_self (by rw [←h.len];exact Xg e)] at E
   cases E
   rw [e] at e1;cases e1
   exact hc
  ·rw [List.getElem?_set_ne hij] at E
   exact h.other hij e e1 (h.co j w' D e1 E) u
theorem MH.told (h:MH o g ls lm lk vr W ws M) {w:CW} (hw:w∈ws) {v:Value} {evs:List Evt} (Y: ∀w∈ws,∀l,w.mem l→o l=none∧ ∃b,g l=some b) (I:OutH Xbb 5 (un w o g) w.L o' g' v evs):Sl Xbb 5 (unm ws lm lk o' g') v evs:=by
 rcases I with ⟨rfl,rfl⟩|⟨l,off,cs,rfl,I,O,V,Z,U,he⟩
 ·exact Sl.nil
 ·have E: ∀b,¬w.mem l→o l=none→g l=some b→False:=λb hm I hb=>by
   rw [ZdN hm I,hb] at O;cases O
  have j: ¬w.mem l:=λhm=>V (CW.memL hm)
  obtain ⟨c,hc⟩:=h.obj
  obtain ⟨bk,aa,Q⟩:=h.cores
  have key:unm ws lm lk o' g' l=some (.cells cs (.loose 5)):=by
   rw [ZcP (λw' J hm=> ?_) (λe=> ?_) (λe=> ?_) I]
   ·exact Z
   ·obtain ⟨a,b,hb⟩:=Y w' J l hm
    exact E b j a hb
   ·subst e;exact E _ j h.om hc
   ·subst e;exact E _ j h.ok Q
  exact ⟨_,_,rfl,Xh Xbb 5 JaC evs,.inr ⟨l,off,rfl⟩,λ_=>⟨l,off,cs,_,rfl,key,U,he⟩⟩
theorem MH.memL (h:MH o g ls lm lk vr W ws M): ∀w∈ws,∀l,w.mem l→o l=none∧ ∃b,g l=some b:=by
 intro w I l O
 obtain ⟨i,E⟩:=List.getElem?_of_mem I
 have j:=Xg E
 have hc:=h.co i w _ E (List.getElem?_eq_getElem (by rw [←h.len];exact j))
 obtain ⟨ds,e1,e2⟩:=hc.hp
 obtain ⟨L,f,J⟩:=id hc.hb
 rcases O with rfl|rfl|rfl
 ·exact ⟨hc.oc,_,hc.hc⟩
 ·exact ⟨hc.op,_,e2⟩
 ·exact ⟨hc.ob,_,J.hb⟩
theorem MH.fresh {α:Type} {enc:α→List Value} {z:Nat} {F:G} {v:Value} {xs:List α} {I:Col Cl} {J:G} (h:MH o g ls lm lk vr W ws M) (hs:Sl enc z F v xs) (Z: ∀l,X4 v=some l→g l=none) (O: ∀l b,F l=some b→I l=none∧J l=some b):Sl enc z (unm ws lm lk I J) v xs:=by
 refine hs.keep λl b Q hb=> ?_
 obtain ⟨ho,V⟩:=O l b Q
 have j:=Z l hb
 obtain ⟨c,hc⟩:=h.obj
 obtain ⟨bk,Y,E⟩:=h.cores
 rw [ZcP (λw U hm=> ?_) (λe=> ?_) (λe=> ?_) ho]
 ·exact V
 ·obtain ⟨_,b,hb⟩:=h.memL w U l hm
  rw [j] at hb;cases hb
 ·subst e;rw [j] at hc;cases hc
 ·subst e;rw [j] at E;cases E
theorem MH.subm (h:MH o g ls lm lk vr W ws M) (s:Sub g g'):Sub (unm ws lm lk o g) (unm ws lm lk o g'):=ZaR (Sub.uncs h.sys.live s)
end
end
section
variable {g:G} {n:Nat}
def Zan (a:Act):List Value:=[.int .i64 a.kind,.int .i64 a.core,.int .i64 a.line]
theorem ZaY (a:Act):(Zan a).length=3:=rfl
theorem JdE (a:Act): ∀v∈Zan a,isCell v=true:=by simp [Zan,isCell]
theorem Jh7 {o:Col Cl} {g:G} {l:Nat} {b:Blk} (h:unc o g l=some b):o l=none∧g l=some b:=by
 unfold unc at h
 split at h
 ·rename_i e;exact ⟨e,h⟩
 ·cases h
def ZcT (ls lm lk:Nat) (vr:Value) (F:G) (R:Qhi) (K:Cont):Prop:= ∀v o' g' n' W' ws',MH o' g' ls lm lk vr W' ws' R.1→Sub F (unm ws' lm lk o' g')→Sl Xbb 5 (unm ws' lm lk o' g') v R.2→K v g' n'
section
variable {o:Col Cl} {ls lm lk:Nat} {vr:Value} {W:QaI} {ws:List CW} {M:Mc} {K:Cont} {k:Nat}
theorem ZhM {ws:List CW} {i:Nat} {w:CW} (h:ws[i]? =some w):(ws.map λw=>ptr w.lc 0)[0+i*1]? =some (ptr w.lc 0):=by
 rw [Nat.zero_add,Nat.mul_one,List.getElem?_map,h];rfl
theorem ZhB {K:Value→Prop} (h:K (.bool true)):Jb .ptr .eql (.pointer none) (.pointer none) K:=h
theorem ZbG (h:MH o g ls lm lk vr W ws M) (i:Int) (j: ¬(0≤i∧i<M.cs.length)→ ∀n',K (.pointer none) g n') (E: ∀w C,ws[i.toNat]? =some w→M.cs[i.toNat]? =some C→0≤i→ ∀n',K (ptr w.lc 0) g n'):
  AC Jk [ptr lm 0,.int .i64 i] g n K:=by
 obtain ⟨c,hc⟩:=h.obj
 obtain ⟨bk,_,O⟩:=h.cores
 refine ACalls.fold Xb ?_
 rw [←QbL]
 simp only [Za7,Qd,Qb]
 refine QaE (Xo (λh=>nomatch h) (λ_=>Qcv (Jg (λJ=> ?_) (λJ=> ?_))))
 ·exact Ja (Sub.refl _) (j (by omega) _)
 refine Zb hc (show _=some (Value.slice (some ⟨lk,0,none⟩) ws.length c) from rfl) ?_
 simp only [XbU]
 have V:=h.len
 refine QeA (Jg (λQ=> ?_) (λQ=> ?_))
 ·exact Ja (Sub.refl _) (j (by omega) _)
 refine Zb hc (show _=some (Value.slice (some ⟨lk,0,none⟩) ws.length c) from rfl) ?_
 have U:i.toNat<ws.length:=by omega
 obtain ⟨w,I⟩: ∃w,ws[i.toNat]? =some w:=⟨_,List.getElem?_eq_getElem U⟩
 refine Zr (by omega) (by omega) ?_
 rw [Qb]
 refine Zb O (ZhM I) ?_
 exact Ja (Sub.refl _) (E w _ I (List.getElem?_eq_getElem (by omega)) (by omega) _)
theorem Jge {v:Value} (j: ∀n',K (.slice none 0 0) g n'):AC QX [.pointer none,v] g n K:=by
 refine ACalls.fold Xb ?_
 rw [←XbB]
 simp only [Xbr]
 exact ZhB (Ze rfl (Ja (Sub.refl _) (j _)))
theorem ZfR {v:Value} (j: ∀n',K (.slice none 0 0) g n'):AC JO [.pointer none,v] g n K:=by
 refine ACalls.fold Xb ?_
 rw [←Qbo]
 simp only [Zbf]
 exact ZhB (Ze rfl (Ja (Sub.refl _) (j _)))
theorem Zgi {m:Ms} (I: ∀g' n',Sub g g'→K (.slice none 0 0) g' n'):AC Zz [.pointer none,.agg (Zk m).toArray] g n K:=by
 refine ACalls.fold Xb ?_
 rw [←XbI]
 simp only [Zbu,Xe]
 intro E
 have j:=(Sub.refl g).new E (some (.cells (Zk m) .exact))
 exact ZhB (Ze rfl (Ja (Sub.refl _) (I _ _ j)))
theorem JgC {i:Int} {f:Cr→Res} (h: ¬(0≤i∧i<M.cs.length)):M.onC i f=(M,[]):=by
 unfold Mc.onC
 split
 ·rw [List.getElem?_eq_none (by omega)]
 ·rfl
theorem Qfi {i:Int} {f:Cr→Res} {C:Cr} (j:0≤i) (e:M.cs[i.toNat]? =some C):M.onC i f=M.setC i.toNat (f C):=by
 unfold Mc.onC
 rw [if_pos j,e]
theorem MH.act (h:MH o g ls lm lk vr W ws M) (a:Act) {P:Nat→List Value→G→Nat→Prop} (k: ∀g',o n=none→MH o g' ls lm lk vr W ws M→Sub g g'→Sub (unm ws lm lk o g) (unm ws lm lk o g')→g' n=some (.cells (Zan a) .exact)→P n (Zan a) g' (n+1)):Jj (.agg (Zan a).toArray) λc=>Zl c .exact g n λl I n1=>P l c I n1:=by
 rw [Xe]
 intro E
 have j:=(Sub.refl g).new E (some (.cells (Zan a) .exact))
 exact k _ (h.sys.live.fresh E) (h.mono j) j (h.subm j) (Xa _ _ _)
theorem MH.sysP (h:MH o g ls lm lk vr W ws M): ∃cs bk,g lm=some (.cells cs bk)∧cs[0]? =some (ptr ls 0):=by
 obtain ⟨c,hc⟩:=h.obj
 exact ⟨_,_,hc,rfl⟩
theorem Jf1 (h:MH o g ls lm lk vr W ws M) (ho:M.ok k) (Z:k+3<100000) (a:Act) (E:ZcT ls lm lk vr (unm ws lm lk o g) (M.onC a.core λC=>C.exec M.S) K):AC ZT [ptr lm 0,.agg (Zan a).toArray] g n K:=by
 refine ACalls.fold Xb ?_
 rw [←ZbM]
 simp only [Qa6,Qd,Qb]
 refine h.act a λg1 on j s1 V x1=> ?_
 refine Zb x1 (show (Zan a)[0+1]? =some (.int .i64 a.core) from rfl) ?_
 obtain ⟨cs,bk,hc,I⟩:=j.sysP
 refine Zb hc I ?_
 refine ZbG j a.core (λQ n'=>⟨rfl,?_⟩) (λw C e1 e2 Y n'=>⟨rfl,?_⟩)
 ·refine Jge (λJ=> ?_)
  rw [JgC Q] at E
  exact Ja (Sub.refl _) (E _ _ _ _ _ _ j V Sl.nil)
 ·rw [Qfi Y e2] at E
  refine JdM j.sys (j.co _ w C e1 e2) (ho.co e2) Z (λv o' g' J W' hs O u hO=> ?_)
  have U:=List.mem_of_getElem? e1
  exact Ja (Sub.refl _) (E _ _ _ _ _ _ (j.coreop e1 u hs O) (V.trans (Zfs U u)) (j.told U j.memL hO))
theorem Ze2 (h:MH o g ls lm lk vr W ws M) (ho:M.ok k) (Z:k<100000) (a:Act) (E:ZcT ls lm lk vr (unm ws lm lk o g) (M.onC a.core λC=>C.drain M.S) K):AC JN [ptr lm 0,.agg (Zan a).toArray] g n K:=by
 refine ACalls.fold Xb ?_
 rw [←Zbx]
 simp only [XaY,Qd,Qb]
 refine h.act a λg1 on j s1 V x1=> ?_
 refine Zb x1 (show (Zan a)[0+1]? =some (.int .i64 a.core) from rfl) ?_
 obtain ⟨cs,bk,hc,I⟩:=j.sysP
 refine Zb hc I ?_
 refine ZbG j a.core (λQ n'=>⟨rfl,?_⟩) (λw C e1 e2 Y n'=>⟨rfl,?_⟩)
 ·refine ZfR (λJ=> ?_)
  rw [JgC Q] at E
  exact Ja (Sub.refl _) (E _ _ _ _ _ _ j V Sl.nil)
 ·rw [Qfi Y e2] at E
  refine Jdb j.sys (j.co _ w C e1 e2) (ho.co e2) Z (λv o' g' J W' hs O u hO=> ?_)
  have U:=List.mem_of_getElem? e1
  exact Ja (Sub.refl _) (E _ _ _ _ _ _ (j.coreop e1 u hs O) (V.trans (Zfs U u)) (j.told U j.memL hO))
theorem Xhg (h:MH o g ls lm lk vr W ws M) (I:M.ok k) (a:Act) (Q:ZcT ls lm lk vr (unm ws lm lk o g) (M.withS (M.S.up a.core).1,[]) K):AC Z7 [ptr lm 0,.agg (Zan a).toArray] g n K:=by
 refine ACalls.fold Xb ?_
 rw [←Qcc]
 simp only [Xbo,Qd,Qb]
 refine h.act a λV on E U O J=> ?_
 obtain ⟨cs,bk,hc,j⟩:=E.sysP
 refine Zb hc j (Zb J (show (Zan a)[0+1]? =some (.int .i64 a.core) from rfl) ?_)
 refine Jft E.sys I.wf.shp (Xin I.wf) _ (λo' g' n' W' u hs=> ?_)
 exact Ja (Sub.refl _) (Q _ _ _ _ _ _ (E.sysop u hs) (O.trans (ZaR u)) Sl.nil)
theorem QeR (h:MH o g ls lm lk vr W ws M) (Q:M.ok k) (a:Act) (O:ZcT ls lm lk vr (unm ws lm lk o g) (M.withS (M.S.answer a.core).1,[]) K):AC JJ [ptr lm 0,.agg (Zan a).toArray] g n K:=by
 refine ACalls.fold Xb ?_
 rw [←Jbu]
 simp only [ZaS,Qd,Qb]
 refine h.act a λV on E U J I=> ?_
 obtain ⟨cs,bk,hc,j⟩:=E.sysP
 refine Zb hc j (Zb I (show (Zan a)[0+1]? =some (.int .i64 a.core) from rfl) ?_)
 refine Qdg E.sys (ZhS Q.wf) _ (λo' g' n' W' u hs=> ?_)
 exact Ja (Sub.refl _) (O _ _ _ _ _ _ (E.sysop u hs) (J.trans (ZaR u)) Sl.nil)
theorem Ze8 (h:MH o g ls lm lk vr W ws M) (U:M.ok k) (J:k<100000) (a:Act) (Q:ZcT ls lm lk vr (unm ws lm lk o g) (M.withS (M.S.evict a.core a.line).1,[]) K):AC XO [ptr lm 0,.agg (Zan a).toArray] g n K:=by
 refine ACalls.fold Xb ?_
 rw [←Xbz]
 simp only [Ja1,Qd,Qb]
 refine h.act a λY on E V O I=> ?_
 obtain ⟨cs,bk,hc,j⟩:=E.sysP
 refine Zb hc j (Zb I (show (Zan a)[0+1]? =some (.int .i64 a.core) from rfl) (Zb I (show (Zan a)[0+2]? =some (.int .i64 a.line) from rfl) ?_))
 refine Xfc E.sys (U.wf.fit J) _ _ (λo' g' n' W' u hs=> ?_)
 exact Ja (Sub.refl _) (Q _ _ _ _ _ _ (E.sysop u hs) (O.trans (ZaR u)) Sl.nil)
theorem Ze4 (h:MH o g ls lm lk vr W ws M) (Q:M.ok k) (a:Act) (O:ZcT ls lm lk vr (unm ws lm lk o g) (M.withS (M.S.drain a.line).1,[]) K):AC QO [ptr lm 0,.agg (Zan a).toArray] g n K:=by
 refine ACalls.fold Xb ?_
 rw [←JbH]
 simp only [QaZ,Qd,Qb]
 refine h.act a λV on E U J I=> ?_
 obtain ⟨cs,bk,hc,j⟩:=E.sysP
 refine Zb hc j (Zb I (show (Zan a)[0+2]? =some (.int .i64 a.line) from rfl) ?_)
 refine ZdR E.sys Q.wf.shp _ (λo' g' n' W' u hs=> ?_)
 exact Ja (Sub.refl _) (O _ _ _ _ _ _ (E.sysop u hs) (J.trans (ZaR u)) Sl.nil)
theorem Jdq (line:Int) (I: ∀v g' n',Sub g g'→OwnS Xbb 5 g g' v (ZfN line)→K v g' n'):AC Qat [.int .i64 line] g n K:=by
 refine ACalls.fold Xb ?_
 rw [←Xc7]
 simp only [Zcw]
 refine ⟨rfl,Nat.le_of_ble_eq_true rfl,rfl,Nat.le_of_ble_eq_true rfl,?_⟩
 refine ⟨rfl,Nat.le_of_ble_eq_true rfl,?_⟩
 rw [Xi]
 change Zl (Xbb ⟨5,0,line,0,0⟩) .exact g n _
 intro j
 have E:=(Sub.refl g).new j (some (.cells (Xbb ⟨5,0,line,0,0⟩) .exact))
 refine Ja (Sub.refl _) (I _ _ _ E ?_)
 exact Own.lit (Xa _ _ _) j rfl (by decide)
theorem JeY {α:Type} {enc:α→List Value} {z:Nat} {g0 E:G} {v:Value} {xs:List α} (h:OwnS enc z g0 E v xs) (hx:xs≠[]): ∀l,X4 v=some l→g0 l=none:=by
 rcases h with ⟨a,_⟩|⟨l,c,bk,rfl,_,j,_⟩
 ·exact absurd (List.length_eq_zero_iff.1 a) hx
 ·intro m e;cases e;exact j
theorem Qf1 (h:MH o g ls lm lk vr W ws M) (ho:M.ok k) (a:Act) (E:ZcT ls lm lk vr (unm ws lm lk o g) (M.pushX (M.S.push a.line) a.line true) K):AC JT [ptr lm 0,.agg (Zan a).toArray] g n K:=by
 refine ACalls.fold Xb ?_
 rw [←JbP]
 simp only [Qa7,Qd,Qb]
 refine h.act a λg1 on O s1 Y Q=> ?_
 obtain ⟨cs,bk,hc,J⟩:=O.sysP
 refine Zb hc J (Zb Q (show (Zan a)[0+2]? =some (.int .i64 a.line) from rfl) ?_)
 refine Jd5 O.sys ho.wf.shp _ (λo' g' n' W' u hs=> ?_)
 have I:=O.sysop u hs
 have x2:g' n=some (.cells (Zan a) .exact):=(JZ _ _).live (u.live (by rw [Zp on];exact Q))
 unfold Mc.pushX at E
 refine Zbq (Jg (λj=> ?_) (λj=> ?_))
 ·rw [if_pos (.inl j)] at E
  exact Ja (Sub.refl _) (E _ _ _ _ _ _ I (Y.trans (ZaR u)) Sl.nil)
 ·rw [if_neg (λa=>a.elim j (λa=>nomatch a))] at E
  refine Zb x2 (show (Zan a)[0+2]? =some (.int .i64 a.line) from rfl) ?_
  refine Jdq a.line (λv g3 n3 V U=> ?_)
  have h3:=I.mono V
  exact Ja (Sub.refl _) (E _ _ _ _ _ _ h3 ((Y.trans (ZaR u)).trans (I.subm V)) (I.fresh (QaP I.sys.live U) (JeY U (by simp [ZfN])) (λl b Z=>Jh7 Z)))
end
end
section
variable {g:G} {n:Nat}
section
variable {o:Col Cl} {ls lm lk:Nat} {vr:Value} {W:QaI} {ws:List CW} {M:Mc} {K:Cont} {k:Nat}
theorem XfO (h:MH o g ls lm lk vr W ws M) (ho:M.ok k) (a:Act) (E:ZcT ls lm lk vr (unm ws lm lk o g) (M.pushX (M.S.drop a.line) a.line (M.S.entry a.line).dirty) K):AC ZV [ptr lm 0,.agg (Zan a).toArray] g n K:=by
 refine ACalls.fold Xb ?_
 rw [←JbO]
 simp only [Za5,Qd,Qb]
 refine h.act a λg1 on O s1 u1 x1=> ?_
 obtain ⟨cs,bk,hc,Q⟩:=O.sysP
 have U:(Zan a)[0+2]? =some (.int .i64 a.line):=rfl
 refine Zb hc Q (Zb x1 U ?_)
 refine Jdw O.sys a.line (λg2 n2 Z=> ?_)
 have h2:=O.mono Z
 have x2:=Z.live x1
 simp only [Xe]
 refine XeZ (Jhs _) ?_
 obtain ⟨aa,bk2,Y,J⟩:=h2.sysP
 refine Zb Y J (Zb x2 U ?_)
 refine Jf5 h2.sys ho.wf.shp _ (λo' g' n' W' u hs=> ?_)
 have I:=h2.sysop u hs
 have x3:g' n=some (.cells (Zan a) .exact):=(JZ _ _).live (u.live (by rw [Zp on];exact x2))
 have V:=(u1.trans (O.subm Z)).trans (ZaR u)
 unfold Mc.pushX at E
 refine Zbq (Jg (λj=> ?_) (λj=> ?_))
 ·rw [if_pos (.inl j)] at E
  exact Ja (Sub.refl _) (E _ _ _ _ _ _ I V Sl.nil)
 ·refine XaC (Xo (λhd=> ?_) (λhd=> ?_))
  ·rw [if_pos (.inr (by simpa using hd))] at E
   exact Ja (Sub.refl _) (E _ _ _ _ _ _ I V Sl.nil)
  ·rw [if_neg (λa=>a.elim j (λb=>by rw [b] at hd;cases hd))] at E
   refine Zb x3 U ?_
   refine Jdq a.line (λv g4 n4 s4 o4=> ?_)
   have h4:=I.mono s4
   exact Ja (Sub.refl _) (E _ _ _ _ _ _ h4 (V.trans (I.subm s4)) (I.fresh (QaP I.sys.live o4) (JeY o4 (by simp [ZfN])) (λl b hl=>Jh7 hl)))
theorem QgG (h:MH o g ls lm lk vr W ws M) (ho:M.ok k) (i:Int) (m:Ms) (j:ZcT ls lm lk vr (unm ws lm lk o g) (M.onC i λC=>((C.hear m).1,M.S,(C.hear m).2)) K) {l5:Nat} (x5:g l5=some (.cells (Zk m) .exact)):
  Ql g l5 0 12 λQ=>AC Jk [ptr lm 0,.int .i64 i] g n λE V O=>(Xc (ptr l5 0) λl _=>V l=g l)∧AC Zz [E,(.agg Q.toArray)] V O λI g6 n24=>Zc K I g6 n24:=by
 refine ldM x5 ?_
 refine ZbG h i (λU n'=> ?_) (λw C e1 e2 Z n'=> ?_)
 ·rw [Qb]
  refine ⟨rfl,Zgi (λg2 J Y=> ?_)⟩
  rw [JgC U] at j
  exact Ja (Sub.refl _) (j _ _ _ _ _ _ (h.mono Y) (h.subm Y) Sl.nil)
 ·rw [Qb]
  rw [Qfi Z e2] at j
  have hw:=List.mem_of_getElem? e1
  refine ⟨rfl,QdF h.sys (h.co _ w C e1 e2) (ho.co e2).ok.waits m (λv g' J hs hc u hl hf=> ?_)⟩
  have h2:=h.coreop (R:=((C.hear m).1,M.S,(C.hear m).2)) e1 u hs hc
  refine Ja (Sub.refl _) (j _ _ _ _ _ _ h2 (Zfs hw u) (h.fresh hl hf (λl b hb=>(Xbv hb).2)))
theorem Qf0 (h:MH o g ls lm lk vr W ws M) (ho:M.ok k) (hk:k<100000) (a:Act) (hK:ZcT ls lm lk vr (unm ws lm lk o g) (M.hearX (M.S.hear a.core) a.core) K):AC JU [ptr lm 0,.agg (Zan a).toArray] g n K:=by
 refine ACalls.fold Xb ?_
 rw [←JbJ]
 simp only [Qa5,Qd,Qb]
 refine h.act a λO on J s1 u1 x1=> ?_
 obtain ⟨cs,bk,hc,ab⟩:=J.sysP
 have d1:(Zan a)[0+1]? =some (.int .i64 a.core):=rfl
 refine Zb hc ab (Zb x1 d1 ?_)
 have aa: ∀{o':Col Cl} {E:G} {n2:Nat} {W':QaI} {l5:Nat},Sub (unc o O) (unc o' E)→SysH o' E ls W' (M.S.hear a.core).1→E l5=some (.cells (Zk (M.S.hear a.core).2.1) .exact)→E n=some (.cells (Zan a) .exact)→
   Jb .int .neq (.int .i64 (M.S.hear a.core).2.2) (.int .i64 0) λac=>Qa ac (Zc K (.slice none 0 0) E n2) (kLd E n (0+1) λal=>Ql E l5 0 12 λam=>AC Jk [ptr lm 0,al] E n2 λad g5 aj=>(Xc (ptr l5 0) λl _=>g5 l=E l)∧AC Zz [ad,(.agg am.toArray)] g5 aj λaf g6 ae=>Zc K af g6 ae):=by
  intro o' E n2 W' l5 u hs x5 x2
  have h2:=J.sysop u hs
  have u2:=u1.trans (ZaR u)
  unfold Mc.hearX at hK
  refine Zbq (Jg (λU=> ?_) (λU=> ?_))
  ·rw [if_pos U] at hK
   exact Ja (Sub.refl _) (hK _ _ _ _ _ _ h2 u2 Sl.nil)
  ·rw [if_neg U] at hK
   refine Zb x2 d1 ?_
   refine QgG h2 (k:=k+1) (ho.withS (by omega) (ho.wf.hear hk a.core) (ho.sn.hear a.core) (Jhi _ _)) a.core (M.S.hear a.core).2.1 (λv o3 g3 n3 W3 ai m3 s3 e3=>hK v o3 g3 n3 W3 ai m3 (u2.trans s3) e3) x5
 have Q: ∀{V:G} {Z:Col Cl},Sub (unc o O) (unc Z V)→V lm=O lm:=λ{V Z} u=>by
  obtain ⟨c,hc⟩:=J.obj
  rw [(QaX J.om hc u).2,hc]
 have j: ∀{V:G} {Z:Col Cl},Sub (unc o O) (unc Z V)→V n=some (.cells (Zan a) .exact):=λ{V Z} u=>(QaX on x1 u).2
 constructor
 ·refine Zc4 J.sys (ho.wf.fit hk) _ (λo' E n2 W' u hs=> ?_)
  refine Jar rfl (Jar rfl ?_)
  intro I
  have s5:=(Sub.refl E).new I (some (.cells (Zk Xm) .exact))
  have Y:=u.trans (Sub.uncs hs.live s5)
  refine ⟨(Q Y).trans (Q u).symm,(j Y).trans (j u).symm,?_⟩
  rw [Xe]
  refine stM (m:=(M.S.hear a.core).2.1) (z:=Xm) (Xa _ _ _) (λx5=> ?_)
  have s6:=s5.upd_fresh (some (.cells (Zk (M.S.hear a.core).2.1) .exact)) I
  have u6:=u.trans (Sub.uncs hs.live s6)
  exact aa u6 (hs.mono s6) x5 (j u6)
 ·intro I
  have s5:=(Sub.refl O).new I (some (.cells (Zk Xm) .exact))
  have x5:upd O (n+1) (some (.cells (Zk Xm) .exact)) (n+1)=some (.cells (Zk Xm) .exact):=Xa _ _ _
  have Y:=Sub.uncs J.sys.live s5
  have an:=J.sys.mono s5
  have o5:=J.sys.live.fresh I
  have fr:unc o O (n+1)=none:=by rw [Zp o5];exact I
  refine ⟨Q Y,(j Y).trans x1.symm,?_⟩
  refine Zc4 an (ho.wf.fit hk) _ (λo' E n2 W' u hs=> ?_)
  refine Jar rfl (Jar rfl ?_)
  rw [Xe]
  obtain ⟨ah,ak⟩:=QaX o5 x5 u
  refine stM (m:=(M.S.hear a.core).2.1) (z:=Xm) ak (λx6=> ?_)
  have u6:Sub (unc o O) (unc o' (upd E (n+1) (some (.cells (Zk (M.S.hear a.core).2.1) .exact)))):=by
   intro l
   rcases (Y.trans u) l with e|e
   ·exact .inl e
   ·by_cases el:l=n+1
    ·subst el;exact .inl fr
    ·right
     rw [e]
     unfold unc
     split
     ·rw [Zd _ _ el]
     ·rfl
  exact aa u6 (hs.same (QbK ah _)) x6 (j u6)
end
end
section
variable {g:G} {n:Nat}
section
variable {o:Col Cl} {ls lm lk:Nat} {vr:Value} {W:QaI} {ws:List CW} {M:Mc} {K:Cont} {k:Nat}
theorem JgV {vs:List CW} (h: ∀w∈vs,w∈ws):Sub (unm ws lm lk o g) (unm vs lm lk o g):=JcR λl b e=>by
 obtain ⟨a,E,c,d,e1⟩:=XcR e
 rw [ZcP (λw j=>a w (h w j)) E c d];exact e1
theorem Xg0 {l:Nat} (b:Option Blk) (h:(∃w∈ws,w.mem l)∨l=lm∨l=lk):unm ws lm lk o (upd g l b)=unm ws lm lk o g:=by
 funext i
 unfold unm
 split
 ·rfl
 ·rename_i j
  obtain ⟨a,I,c⟩:=ownB_f.1 (by simpa using j)
  unfold unc
  split
  ·refine Zd _ _ λe=> ?_
   subst e
   rcases h with ⟨w,E,hm⟩|h|h
   ·exact a w E hm
   ·exact I h
   ·exact c h
  ·rfl
theorem CoH.updN {w:CW} {C:Cr} (h:CoH o g w C) {l:Nat} (E: ¬w.mem l) (b:Option Blk):CoH o (upd g l b) w C:=h.keep λi _ hm I j=>⟨I,by rw [Zd _ _ (λe=>E (by rw [←e];exact hm))];exact j⟩
theorem JfI {w:CW} {C:Cr} (hc:CoH o g w C) (j: ∀n',CoH o (upd g w.lc (some (.cells (coC w { C with runs:=false }) .exact))) w { C with runs:=false }→K (.tuple #[]) (upd g w.lc (some (.cells (coC w { C with runs:=false }) .exact))) n'):AC XaU [ptr w.lc 0] g n K:=by
 refine ACalls.fold Xb ?_
 rw [←Xc9]
 simp only [Xcv]
 rw [Xck]
 refine Ze rfl ?_
 rw [Qd,Qb]
 refine hc.st (k:=4) (C':={ C with runs:=false }) (by decide) rfl rfl ?_
 exact Ja (Sub.refl _) (j _ (hc.setC hc.rl rfl rfl rfl))
theorem ZdH {room:Int} {rc:List Int} {N i:Nat} (h:i<N):(Ja5 room rc N)[i]? =some (if i=0 then Xa3 0 room rc else { Xa3 (i:Nat) room [] with runs:=false }):=by
 unfold Ja5
 rw [List.getElem?_map,List.getElem?_range h];rfl
structure FailI (F:G) (o:Col Cl) (g:G) (ls lm lk l5:Nat) (vr:Value) (W:QaI) (ws:List CW) (S:Sys) (rc:List Int) (f:Int) (vs:List CW):Prop where
 sys:SysH o g ls W S
 le:vs.length≤ws.length
 om:o lm=none
 ok:o lk=none
 o5:o l5=none
 ne:lm≠lk
 n5:l5≠lm∧l5≠lk
 obj: ∃c,g lm=some (.cells [ptr ls 0,.slice (some ⟨lk,0,none⟩) ws.length c,vr,.int .i64 f] .exact)
 cores: ∃bk,bk.rw=true∧g lk=some (.cells ((vs++ws.drop vs.length).map λw=>ptr w.lc 0) bk)
 cfg:g l5=some (.cells (Ju S.c) .exact)
 co: ∀(i:Nat) w C,vs[i]? =some w→(Ja5 S.c.store rc ws.length)[i]? =some C→CoH o g w C
 dis: ∀(i j:Nat) w w',i≠j→vs[i]? =some w→vs[j]? =some w'→ ∀l,w.mem l→ ¬w'.mem l
 nm: ∀w∈vs,¬w.mem lm∧ ¬w.mem lk∧ ¬w.mem l5
 sub:Sub F (unm vs lm lk o g)
theorem FailI.step {F:G} {l5:Nat} {S:Sys} {rc:List Int} {f:Int} {vs:List CW} (h:FailI F o g ls lm lk l5 vr W ws S rc f vs) (ai:vs.length<ws.length) {w:CW} {g1:G} (s:Sub g g1) (ad: ∀l,w.mem l→g l=none) {C:Cr} (hC:(Ja5 S.c.store rc ws.length)[vs.length]? =some C)
  {Y:G} (hc:CoH o Y w C) {bk:BK} (ae:bk.rw=true) (hk:Y lk=some (.cells (((vs++[w])++ws.drop (vs.length+1)).map λw=>ptr w.lc 0) bk)) (V: ∀l,¬w.mem l→l≠lk→Y l=g1 l):FailI F o Y ls lm lk l5 vr W ws S rc f (vs++[w]):=by
 have U: ∀{l:Nat} {b:Blk},g l=some b→ ¬w.mem l:=λ{l b} I hm=>by rw [ad l hm] at I;cases I
 obtain ⟨c,J⟩:=h.obj
 obtain ⟨ah,_,af⟩:=h.cores
 have keep: ∀{l:Nat} {b:Blk},g l=some b→l≠lk→Y l=some b:=λ{l b} I ab=>by rw [V l (U I) ab];exact s.live I
 have mem: ∀{i:Nat} {v:CW},(vs++[w])[i]? =some v→(i<vs.length∧vs[i]? =some v)∨(i=vs.length∧v=w):=λ{i v} e=>by
  by_cases Z:i<vs.length
  ·rw [List.getElem?_append_left Z] at e;exact .inl ⟨Z,e⟩
  ·rw [List.getElem?_append_right (by omega)] at e
   have:=Xg e
   rw [List.length_singleton] at this
   have e0:i-vs.length=0:=by omega
   rw [e0] at e
   cases e
   exact .inr ⟨by omega,rfl⟩
 have live: ∀{i:Nat} {v:CW},vs[i]? =some v→ ∀l,v.mem l→ ∃b,g l=some b:=λ{i v} e l hm=>by
  obtain ⟨C',ac⟩: ∃C',(Ja5 S.c.store rc ws.length)[i]? =some C':=⟨_,ZdH (by have:=Xg e;have:=h.le;omega)⟩
  have O:=h.co i v C' e ac
  obtain ⟨ds,e1,e2⟩:=O.hp
  obtain ⟨L,f,hr⟩:=id O.hb
  rcases hm with rfl|rfl|rfl
  ·exact ⟨_,O.hc⟩
  ·exact ⟨_,e2⟩
  ·exact ⟨_,hr.hb⟩
 refine ⟨h.sys.same (λl c I=> ?_),by rw [List.length_append,List.length_singleton];omega,h.om,h.ok,h.o5,h.ne,h.n5,⟨c,keep J h.ne⟩,⟨bk,ae,by rw [List.length_append,List.length_singleton];exact hk⟩,keep h.cfg h.n5.2,λi v D e1 e2=> ?_,λi j v v' aa e1 e2 l hm Q=> ?_,λv E=> ?_,JcR λl b e=> ?_⟩
 ·obtain ⟨b,hb⟩:=h.sys.live l c I
  rw [keep hb (λe=>by rw [e,h.ok] at I;cases I),hb]
 ·rcases mem e1 with ⟨Z,e⟩|⟨rfl,rfl⟩
  ·exact (h.co i v D e e2).keep λl b hm ho hg=>⟨ho,keep hg (λe'=>(h.nm v (List.mem_of_getElem? e)).2.1 (by rw [←e'];exact hm))⟩
  ·rw [hC] at e2;cases e2;exact hc
 ·rcases mem e1 with ⟨Z,e⟩|⟨Z,rfl⟩
  ·rcases mem e2 with ⟨hj,e'⟩|⟨hj,rfl⟩
   ·exact h.dis i j v v' aa e e' l hm Q
   ·obtain ⟨b,hb⟩:=live e l hm
    exact U hb Q
  ·rcases mem e2 with ⟨hj,e'⟩|⟨hj,rfl⟩
   ·obtain ⟨b,hb⟩:=live e' l Q
    exact U hb hm
   ·omega
 ·rcases List.mem_append.1 E with E|E
  ·exact h.nm v E
  ·rcases List.mem_singleton.1 E with rfl
   exact ⟨U J,U af,U h.cfg⟩
 ·obtain ⟨a,b1,c1,d,e1⟩:=XcR (h.sub.live e)
  rw [ZcP (λv E=> ?_) b1 c1 d]
  ·exact keep e1 c1
  ·rcases List.mem_append.1 E with E|E
   ·exact a v E
   ·rcases List.mem_singleton.1 E with rfl;exact U e1
theorem Qg1 {F:G} {l5:Nat} {S:Sys} {rc:List Int} {f:Int} {vs:List CW} (h:FailI F o g ls lm lk l5 vr W ws S rc f vs) (E:vs.length=ws.length) (Q:Sl XcO 1 F vr rc):MH o g ls lm lk vr W vs ⟨S,Ja5 S.c.store rc ws.length,rc,f⟩:=by
 obtain ⟨c,j⟩:=h.obj
 obtain ⟨bk,I,O⟩:=h.cores
 rw [E,List.drop_of_length_le (Nat.le_refl _),List.append_nil] at O
 exact ⟨h.sys,by show vs.length=(Ja5 _ _ _).length;unfold Ja5;rw [List.length_map,List.length_range,E],h.co,h.dis,h.om,h.ok,λw J=>⟨(h.nm w J).1,(h.nm w J).2.1⟩,h.ne,⟨c,by rw [E];exact j⟩,⟨bk,I,O⟩,Q.mono h.sub⟩
theorem JeP {vs ws:List CW} (j:vs.length<ws.length) (w:CW):((vs++ws.drop vs.length).map λw=>ptr w.lc 0).set (0+vs.length*1) (ptr w.lc 0)=(((vs++[w])++ws.drop (vs.length+1)).map λw=>ptr w.lc 0):=by
 have e:ws.drop vs.length=ws[vs.length]::ws.drop (vs.length+1):=List.drop_eq_getElem_cons j
 have E:0+vs.length*1=vs.length:=by omega
 rw [e,E,←List.map_set (f:=λw:CW=>ptr w.lc 0) (a:=w)]
 congr 1
 rw [List.set_append_right _ _ (Nat.le_refl _),Nat.sub_self,List.set_cons_zero,List.append_assoc];rfl
set_option maxRecDepth 100000 in
theorem QfT (h:MH o g ls lm lk vr W ws M) (ho:M.ok k) (hk:k<100000) (a:Act) (hK:ZcT ls lm lk vr (unm ws lm lk o g) M.failX K):AC Xq [ptr lm 0,.agg (Zan a).toArray] g n K:=by
 refine ACalls.fold Xb ?_
 rw [←XbM]
 simp only [Qay,Xak,Qd,Qb]
 refine h.act a λg1 on h1 s1 u1 x1=> ?_
 obtain ⟨cs,bk,hc,aB⟩:=h1.sysP
 refine Zb hc aB ?_
 have aw:=ho.wf.c.cores
 have aH:=ho.fl
 refine QfH h1.sys ho.wf.shp ho.wf.c (λo2 g2 n2 W2 u2 au=> ?_)
 have h2:=h1.sysop u2 au
 have v2:=u1.trans (ZaR (ws:=ws) (lm:=lm) (lk:=lk) u2)
 obtain ⟨c,Y⟩:=h2.obj
 have Y:g2 lm=some (.cells [ptr ls 0,.slice (some ⟨lk,0,none⟩) ws.length c,vr,.int .i64 M.fails] .exact):=Y
 obtain ⟨bk2,aF,aE⟩:=h2.cores
 refine Zb Y (show _=some (Value.int .i64 M.fails) from rfl) ?_
 rw [Jf,Qg (by omega) (by omega)]
 refine Qz Y rfl (by simp) rfl ?_
 have e3:([ptr ls 0,.slice (some ⟨lk,0,none⟩) ws.length c,vr,.int .i64 M.fails]:List Value).set (0+3) (.int .i64 (M.fails+1))=[ptr ls 0,.slice (some ⟨lk,0,none⟩) ws.length c,vr,.int .i64 (M.fails+1)]:=rfl
 change _=_ at e3
 have J:upd g2 lm (some (.cells [ptr ls 0,.slice (some ⟨lk,0,none⟩) ws.length c,vr,.int .i64 (M.fails+1)] .exact)) lm=some (.cells [ptr ls 0,.slice (some ⟨lk,0,none⟩) ws.length c,vr,.int .i64 (M.fails+1)] .exact):=Xa _ _ _
 have ac:upd g2 lm (some (.cells [ptr ls 0,.slice (some ⟨lk,0,none⟩) ws.length c,vr,.int .i64 (M.fails+1)] .exact)) lk=some (.cells (ws.map λw=>ptr w.lc 0) bk2):=by rw [Zd _ _ (Ne.symm h2.ne)];exact aE
 have ab:=au.same (QbK h2.om (some (.cells [ptr ls 0,.slice (some ⟨lk,0,none⟩) ws.length c,vr,.int .i64 (M.fails+1)] .exact)))
 have v3:Sub (unm ws lm lk o g) (unm ws lm lk o2 (upd g2 lm (some (.cells [ptr ls 0,.slice (some ⟨lk,0,none⟩) ws.length c,vr,.int .i64 (M.fails+1)] .exact)))):=by rw [Xg0 _ (.inr (.inl rfl))];exact v2
 rw [show ([ptr ls 0,.slice (some ⟨lk,0,none⟩) ws.length c,vr,.int .i64 M.fails]:List Value).set (0+3) (.int .i64 (M.fails+1))=[ptr ls 0,.slice (some ⟨lk,0,none⟩) ws.length c,vr,.int .i64 (M.fails+1)] from rfl]
 generalize upd g2 lm (some (.cells [ptr ls 0,.slice (some ⟨lk,0,none⟩) ws.length c,vr,.int .i64 (M.fails+1)] .exact))=g3 at J ac ab v3 ⊢
 refine Zb J (show _=some (ptr ls 0) from rfl) ?_
 refine Jca ab (λg4 U s4=> ?_)
 change Zl (Ju ⟨0,0,0,0,0,0,0⟩) .exact g4 U _
 intro O
 have s5:=s4.trans ((Sub.refl g4).new O (some (.cells (Ju ⟨0,0,0,0,0,0,0⟩) .exact)))
 rw [Xe]
 refine ⟨by simp [Ju],Xt (cs:=Ju ⟨0,0,0,0,0,0,0⟩) (Xa _ _ _) rfl (by simp [Ju]) (by simp [Ju,isCell]) ?_⟩
 have e6:splice (Ju ⟨0,0,0,0,0,0,0⟩) 0 (Ju M.S.fail.c)=Ju M.S.fail.c:=Jw rfl
 rw [e6]
 have x6:upd (upd g4 U (some (.cells (Ju ⟨0,0,0,0,0,0,0⟩) .exact))) U (some (.cells (Ju M.S.fail.c) .exact)) U=some (.cells (Ju M.S.fail.c) .exact):=Xa _ _ _
 have s6:=s5.upd_fresh (some (.cells (Ju M.S.fail.c) .exact)) (s4.none O)
 have aD:=ab.mono s4
 have aC:o2 U=none:=aD.live.fresh O
 have n5m:U≠lm:=λe=>by rw [e] at O;rw [s4.live J] at O;cases O
 have n5k:U≠lk:=λe=>by rw [e] at O;rw [s4.live ac] at O;cases O
 generalize upd (upd g4 U (some (.cells (Ju ⟨0,0,0,0,0,0,0⟩) .exact))) U (some (.cells (Ju M.S.fail.c) .exact))=g6 at x6 s6
 have aI:ws.length=M.S.c.cores.toNat:=h.len.trans ho.len
 have hI:FailI (unm ws lm lk o g) o2 g6 ls lm lk U vr W2 ws M.S.fail M.rc (M.fails+1) []:=⟨ab.mono s6,Nat.zero_le _,h2.om,h2.ok,aC,h2.ne,⟨n5m,n5k⟩,⟨c,s6.live J⟩,⟨bk2,aF,s6.live ac⟩,x6,(λi w C e=>by simp at e),(λi j w w' _ e=>by simp at e),(λw hw=>by simp at hw),(v3.trans (ZaR (Sub.uncs ab.live s6))).trans (JgV (λw hw=>by simp at hw))⟩
 have tail: ∀(t:Env) (n6:Nat),t 0=ptr lm 0→t 5=ptr U 0→JC AC K t g6 n6:=by
  intro t n6 t0 t5
  simp only [JC,t0,Qd,Qb]
  refine Zb (s6.live J) (show _=some (Value.slice (some ⟨lk,0,none⟩) ws.length c) from rfl) ?_
  rw [XbU]
  refine XA (m:=ws.length) (Inv:=λm t g9 n9=> ∃(vs:List CW),m+vs.length=ws.length∧FailI (unm ws lm lk o g) o2 g9 ls lm lk U vr W2 ws M.S.fail M.rc (M.fails+1) vs∧t 0=ptr lm 0∧t 5=ptr U 0∧t 29= .int .i64 (ws.length:Nat)∧t 30= .int .i64 (vs.length:Nat)) ?_
   ⟨[],rfl,hI,t0,t5,rfl,rfl⟩
  rintro I m t g9 n9 ih ⟨vs,hm,Z,t0,t5,ao,am⟩
  simp only [JaM,t0,t5,ao,am,Qd,Qb]
  refine Qcv (Jg (λaG=> ?_) (λaG=> ?_))
  ·have V:vs.length<ws.length:=by omega
   have body: ∀(t':Env) (us:List Int) (v:Value),t' 0=ptr lm 0→t' 5=ptr U 0→t' 29= .int .i64 (ws.length:Nat)→t' 30= .int .i64 (vs.length:Nat)→t' 6= .int .i64 (vs.length:Nat)→t' 7=v→Sl XcO 1 (unc o2 g9) v us→us.length≤4096→
     (Ja5 M.S.fail.c.store M.rc ws.length)[vs.length]? =some (if 0<vs.length then { Xa3 (vs.length:Nat) M.S.fail.c.store us with runs:=false } else Xa3 (vs.length:Nat) M.S.fail.c.store us)→JS AC K I t' g9 n9:=by
    intro t' us v q0 q5 al ai q6 q7 hv ax hC
    simp only [JS,q0,q5,q6,q7,ai,Qd,Qb]
    obtain ⟨c9,E⟩:=Z.obj
    obtain ⟨ah,ad,ae⟩:=Z.cores
    refine Zb E (show _=some (Value.slice (some ⟨lk,0,none⟩) ws.length c9) from rfl) ?_
    refine Zb Z.cfg (show _=some (Value.int .i64 M.S.fail.c.store) from rfl) ?_
    refine QdE hv Z.sys.live (by omega) ho.wf.c.store ax (λw aa n10 Q an aA=> ?_)
    refine ⟨(Q.live E).trans E.symm,?_⟩
    refine Jar rfl (Jar rfl ?_)
    refine Zr (by omega) (by omega) ?_
    rw [Qb,Int.toNat_natCast]
    have nw: ∀{l:Nat} {b:Blk},g9 l=some b→ ¬w.mem l:=λ{l b} hl hm=>by rw [an l hm] at hl;cases hl
    refine Qz (Q.live ae) ad (by rw [List.length_map,List.length_append,List.length_drop];omega) rfl ?_
    rw [JeP V w]
    have xk:upd aa lk (some (.cells (((vs++[w])++ws.drop (vs.length+1)).map λw=>ptr w.lc 0) ah)) lk=some (.cells (((vs++[w])++ws.drop (vs.length+1)).map λw=>ptr w.lc 0) ah):=Xa _ _ _
    have af:CoH o2 (upd aa lk (some (.cells (((vs++[w])++ws.drop (vs.length+1)).map λw=>ptr w.lc 0) ah))) w (Xa3 (vs.length:Nat) M.S.fail.c.store us):=aA.updN (nw ae) _
    have aj: ∀l,l≠lk→upd aa lk (some (.cells (((vs++[w])++ws.drop (vs.length+1)).map λw=>ptr w.lc 0) ah)) l=aa l:=λl hl=>Zd _ _ hl
    generalize upd aa lk (some (.cells (((vs++[w])++ws.drop (vs.length+1)).map λw=>ptr w.lc 0) ah))=ar at xk af aj
    have j3: ∀(t2:Env),t2 0=ptr lm 0→t2 5=ptr U 0→t2 29= .int .i64 (ws.length:Nat)→t2 30= .int .i64 (vs.length:Nat)→t2 6= .int .i64 (vs.length:Nat)→Qah AC K I t2 ar n10:=by
     intro t2 q0 q5 al ai q6
     simp only [Qah,q0,q6,ai,Qd,Qb]
     refine Qf9 (Jg (λav=> ?_) (λav=> ?_))
     ·rw [if_pos (by omega)] at hC
      have ak:ar lm=some (.cells [ptr ls 0,.slice (some ⟨lk,0,none⟩) ws.length c9,vr,.int .i64 (M.fails+1)] .exact):=by rw [aj lm Z.ne];exact Q.live E
      refine Zb ak (show _=some (Value.slice (some ⟨lk,0,none⟩) ws.length c9) from rfl) ?_
      refine Zr (by omega) (by omega) ?_
      rw [Qb,Int.toNat_natCast]
      refine Zb xk (ZhM (ws:=(vs++[w])++ws.drop (vs.length+1)) (w:=w) (by rw [List.append_assoc,List.getElem?_append_right (Nat.le_refl _),Nat.sub_self];rfl)) ?_
      refine JfI af (λaJ aq=> ?_)
      rw [Jf,JL (by omega)]
      refine ih (m-1) _ _ _ (by omega) ⟨vs++[w],by rw [List.length_append,List.length_singleton];omega,?_,q0,q5,al,by rw [List.length_append,List.length_singleton];rfl⟩
      refine Z.step V Q an hC aq ad (by rw [Zd _ _ (λe=>nw ae (by rw [e];exact .inl rfl))];exact xk) (λl hm hl=> ?_)
      rw [Zd _ _ (λe=>hm (by rw [e];exact .inl rfl)),aj l hl]
     ·rw [if_neg (by omega)] at hC
      rw [Jf,JL (by omega)]
      refine ih (m-1) _ _ _ (by omega) ⟨vs++[w],by rw [List.length_append,List.length_singleton];omega,?_,q0,q5,al,by rw [List.length_append,List.length_singleton];rfl⟩
      exact Z.step V Q an hC af ad xk (λl _ hl=>aj l hl)
    exact j3 _ q0 q5 al ai q6
   refine XaB (Jg (λh0=> ?_) (λh0=> ?_))
   ·obtain ⟨c9,E⟩:=Z.obj
    refine Zb E (show _=some vr from rfl) ?_
    have ay:vs.length=0:=by omega
    refine body _ M.rc vr t0 t5 ao am rfl rfl ((h.rc.mono Z.sub).mono unm_sub) ho.rl ?_
    rw [ay,ZdH (by omega),if_pos rfl,if_neg (by omega)];rfl
   ·refine body _ [] (.slice none 0 0) t0 t5 ao am rfl rfl Sl.nil (by decide) ?_
    rw [ZdH V,if_neg (by omega),if_pos (by omega)]
  ·simp only [XaJ]
   refine ⟨rfl,Nat.le_of_ble_eq_true rfl,?_⟩
   refine ⟨rfl,Nat.le_of_ble_eq_true rfl,?_⟩
   rw [Xi]
   change Zl (Xbb ⟨11,0,0,0,0⟩) .exact g9 n9 _
   intro hn
   have Q:=(Sub.refl g9).new hn (some (.cells (Xbb ⟨11,0,0,0,0⟩) .exact))
   have h9:=Qg1 Z (by have:=Z.le;omega) h.rc
   have az:=h9.mono Q
   have ap:OwnS Xbb 5 g9 (upd g9 n9 (some (.cells (Xbb ⟨11,0,0,0,0⟩) .exact))) (.slice (some ⟨n9,0,none⟩) 1 1) [(⟨11,0,0,0,0⟩:Evt)]:=Own.lit (Xa _ _ _) hn rfl (by decide)
   have eM:M.failX=(⟨M.S.fail,Ja5 M.S.fail.c.store M.rc ws.length,M.rc,M.fails+1⟩,[⟨11,0,0,0,0⟩]):=by unfold Mc.failX;rw [h.len];rfl
   rw [eM] at hK
   exact Ja (Sub.refl _) (hK _ _ _ _ _ _ az (Z.sub.trans (h9.subm Q)) (h9.fresh (QaP h9.sys.live ap) (JeY ap (by simp)) (λl b hl=>Jh7 hl)))
 refine tail _ _ ?_ ?_<;>rfl
end
end
section
variable {g:G} {n:Nat}
def actsL:List Value:=[.nilFunc,.func (.func ZT) #[] #[],.func (.func JN) #[] #[],.func (.func Z7) #[] #[],.func (.func JJ) #[] #[],.func (.func JU) #[] #[],.func (.func JT) #[] #[],
 .func (.func XO) #[] #[],.func (.func ZV) #[] #[],.func (.func QO) #[] #[],.func (.func Xq) #[] #[]]
theorem Qgh {K:Cont} (J: ∀g' n',Sub g g'→K (.agg actsL.toArray) g' n'):AC Jbj [] g n K:=by
 refine ACalls.fold Xb ?_
 rw [←QdP]
 simp only [Jdf,Xe]
 intro E
 have I:=(Sub.refl g).new E (some (.cells [.nilFunc,.nilFunc,.nilFunc,.nilFunc,.nilFunc,.nilFunc,.nilFunc,.nilFunc,.nilFunc,.nilFunc,.nilFunc] .exact))
 have hx:upd g n (some (.cells [.nilFunc,.nilFunc,.nilFunc,.nilFunc,.nilFunc,.nilFunc,.nilFunc,.nilFunc,.nilFunc,.nilFunc,.nilFunc] .exact)) n=some (.cells [.nilFunc,.nilFunc,.nilFunc,.nilFunc,.nilFunc,.nilFunc,.nilFunc,.nilFunc,.nilFunc,.nilFunc,.nilFunc] .exact):=Xa _ _ _
 refine ⟨rfl,by decide,rfl,by decide,rfl,by decide,rfl,by decide,rfl,by decide,rfl,by decide,rfl,by decide,rfl,by decide,rfl,by decide,rfl,by decide,rfl,?_⟩
 refine Xt hx rfl (by decide) (by intro v j;simp at j;rcases j with rfl|rfl|rfl|rfl|rfl|rfl|rfl|rfl|rfl|rfl|rfl<;>rfl) ?_
 refine Jt (Xa _ _ _) (by decide) ?_
 exact Ja (Sub.refl _) (J _ _ (I.upd_fresh _ E))
section
variable {o:Col Cl} {ls lm lk:Nat} {vr:Value} {W:QaI} {ws:List CW} {M:Mc} {K:Cont} {k:Nat}
theorem Jeq (h:MH o g ls lm lk vr W ws M) (J:M.ok k) (U:k+3<100000) (a:Act) (hK:ZcT ls lm lk vr (unm ws lm lk o g) (M.do a) K):AC JK [ptr lm 0,.agg (Zan a).toArray] g n K:=by
 refine ACalls.fold Xb ?_
 rw [←Zca]
 simp only [Jbq,Qb]
 refine h.act a λg1 on V s1 u1 O=> ?_
 refine QaE (Xo (λh=>nomatch h) (λ_=> ?_))
 have d0:(Zan a)[0+0]? =some (.int .i64 a.kind):=rfl
 have nil:M.do a=(M,[])→ ∀n',Zc K (.slice none 0 0) g1 n':=by
  intro e n'
  rw [e] at hK
  exact Ja (Sub.refl _) (hK _ _ _ _ _ _ V u1 Sl.nil)
 refine Zb O d0 (Qcv (Jg (λab=>nil ?_ _) (λab=> ?_)))
 ·unfold Mc.do
  rw [if_neg (by omega),if_neg (by omega),if_neg (by omega),if_neg (by omega),if_neg (by omega),if_neg (by omega),if_neg (by omega),if_neg (by omega),if_neg (by omega),if_neg (by omega)]
 refine Zb O d0 (Qf9 (Jg (λY=>nil ?_ _) (λY=> ?_)))
 ·unfold Mc.do
  rw [if_neg (by omega),if_neg (by omega),if_neg (by omega),if_neg (by omega),if_neg (by omega),if_neg (by omega),if_neg (by omega),if_neg (by omega),if_neg (by omega),if_neg (by omega)]
 refine Zb O d0 ?_
 refine Jt O (by simp [Zan]) ?_
 rw [show ((Zan a).drop 0).take 3=Zan a from rfl]
 refine Qgh (λZ n2 Q=> ?_)
 refine ⟨(Q.live O).trans O.symm,(Q.live O).trans O.symm,?_⟩
 have I:=V.mono Q
 have u2:=u1.trans (V.subm Q)
 have go: ∀(k:Int) (j:Nat) (f:FuncId),k=j→j<11→actsL[j]? =some (.func (.func f) #[] #[])→AC f [ptr lm 0,.agg (Zan a).toArray] Z n2 (λv g' n'=>Zc K v g' n')→JdY (.agg actsL.toArray) (.int .i64 k) 11 1 none λad=>Qbu AC ad [ptr lm 0,.agg (Zan a).toArray] Z n2 λaa g3 n23=>Zc K aa g3 n23:=by
  intro k j f U hj hf hc
  subst U
  refine ⟨by omega,by omega,?_⟩
  show Xbf actsL (((j:Nat):Int).toNat*1) none _
  rw [Int.toNat_natCast,Nat.mul_one]
  exact Jci hf hc
 have E:ZcT ls lm lk vr (unm ws lm lk o Z) (M.do a) (λv g' n'=>Zc K v g' n'):=λv o' g' n' W' ae m s e=>Ja (Sub.refl _) (hK v o' g' n' W' ae m (u2.trans s) e)
 unfold Mc.do at E
 have ac:a.kind=1∨a.kind=2∨a.kind=3∨a.kind=4∨a.kind=5∨a.kind=6∨a.kind=7∨a.kind=8∨a.kind=9∨a.kind=10:=by omega
 rcases ac with e|e|e|e|e|e|e|e|e|e
 ·rw [if_pos e] at E
  exact go _ 1 _ e (by decide) rfl (Jf1 I J U a E)
 ·rw [if_neg (by omega),if_pos e] at E
  exact go _ 2 _ e (by decide) rfl (Ze2 I J (by omega) a E)
 ·rw [if_neg (by omega),if_neg (by omega),if_pos e] at E
  exact go _ 3 _ e (by decide) rfl (Xhg I J a E)
 ·rw [if_neg (by omega),if_neg (by omega),if_neg (by omega),if_pos e] at E
  exact go _ 4 _ e (by decide) rfl (QeR I J a E)
 ·rw [if_neg (by omega),if_neg (by omega),if_neg (by omega),if_neg (by omega),if_pos e] at E
  exact go _ 5 _ e (by decide) rfl (Qf0 I J (by omega) a E)
 ·rw [if_neg (by omega),if_neg (by omega),if_neg (by omega),if_neg (by omega),if_neg (by omega),if_pos e] at E
  exact go _ 6 _ e (by decide) rfl (Qf1 I J a E)
 ·rw [if_neg (by omega),if_neg (by omega),if_neg (by omega),if_neg (by omega),if_neg (by omega),if_neg (by omega),if_pos e] at E
  exact go _ 7 _ e (by decide) rfl (Ze8 I J (by omega) a E)
 ·rw [if_neg (by omega),if_neg (by omega),if_neg (by omega),if_neg (by omega),if_neg (by omega),if_neg (by omega),if_neg (by omega),if_pos e] at E
  exact go _ 8 _ e (by decide) rfl (XfO I J a E)
 ·rw [if_neg (by omega),if_neg (by omega),if_neg (by omega),if_neg (by omega),if_neg (by omega),if_neg (by omega),if_neg (by omega),if_neg (by omega),if_pos e] at E
  exact go _ 9 _ e (by decide) rfl (Ze4 I J a E)
 ·rw [if_neg (by omega),if_neg (by omega),if_neg (by omega),if_neg (by omega),if_neg (by omega),if_neg (by omega),if_neg (by omega),if_neg (by omega),if_neg (by omega),if_pos e] at E
  exact go _ 10 _ e (by decide) rfl (QfT I J (by omega) a E)
def Jf8 (ws:List CW) (lm lk:Nat):List Nat:=lm::lk::ws.flatMap CW.L
theorem mem_ownL {l:Nat}:l∈Jf8 ws lm lk↔l=lm∨l=lk∨ ∃w∈ws,w.mem l:=by
 unfold Jf8
 rw [List.mem_cons,List.mem_cons,List.mem_flatMap]
 exact or_congr Iff.rfl (or_congr Iff.rfl ⟨λ⟨w,E,j⟩=>⟨w,E,CW.ofL j⟩,λ⟨w,E,j⟩=>⟨w,E,CW.memL j⟩⟩)
theorem Jdy {l:Nat} (j:l∉Jf8 ws lm lk) (I:o l=none):unm ws lm lk o g l=g l:=by
 rw [mem_ownL] at j
 exact ZcP (λw E hm=>j (.inr (.inr ⟨w,E,hm⟩))) (λe=>j (.inl e)) (λe=>j (.inr (.inl e))) I
theorem Jhl {l:Nat} {b:Blk} (h:unm ws lm lk o g l=some b):l∉Jf8 ws lm lk∧o l=none∧g l=some b:=by
 obtain ⟨a,E,c,d,e⟩:=XcR h
 exact ⟨λhm=>by rcases mem_ownL.1 hm with h|h|⟨w,j,hm⟩;exact E h;exact c h;exact a w j hm,d,e⟩
theorem OutH.mach {F:G} {v:Value} {evs:List Evt} {o':Col Cl} {g':G} {j:List CW} (h:OutH Xbb 5 F (Jf8 ws lm lk) o g v evs) (s:Sub (unm ws lm lk o g) (unm j lm lk o' g')):OutH Xbb 5 F (Jf8 j lm lk) o' g' v evs:=by
 rcases h with h|⟨l,off,cs,rfl,Q,O,I,J,E,he⟩
 ·exact .inl h
 ·obtain ⟨a,b,c⟩:=Jhl (s.live (show unm ws lm lk o g l=some _ by rw [Jdy I Q];exact J))
  exact .inr ⟨l,off,cs,rfl,b,O,a,c,E,he⟩
theorem OutH.um {F:G} {v:Value} {evs:List Evt} (h:OutH Xbb 5 F (Jf8 ws lm lk) o g v evs):Sl Xbb 5 (unm ws lm lk o g) v evs:=by
 rcases h with ⟨rfl,rfl⟩|⟨l,off,cs,rfl,J,O,I,j,E,he⟩
 ·exact Sl.nil
 ·exact ⟨_,_,rfl,Xh Xbb 5 JaC evs,.inr ⟨l,off,rfl⟩,λ_=>⟨l,off,cs,_,rfl,by rw [Jdy I J];exact j,E,he⟩⟩
theorem MH.ownLive (h:MH o g ls lm lk vr W ws M): ∀l∈Jf8 ws lm lk,∃b,g l=some b:=by
 intro l I
 obtain ⟨c,hc⟩:=h.obj
 obtain ⟨bk,_,E⟩:=h.cores
 rcases mem_ownL.1 I with rfl|rfl|⟨w,j,hm⟩
 ·exact ⟨_,hc⟩
 ·exact ⟨_,E⟩
 ·exact (h.memL w j l hm).2
theorem MH.app {F:G} {v x:Value} {evs ys:List Evt} (h:MH o g ls lm lk vr W ws M) (V:Sub F (unm ws lm lk o g)) (Y:Sl XcO 1 F vr M.rc) (hv:OutH Xbb 5 F (Jf8 ws lm lk) o g v evs) (hx:Sl Xbb 5 (unm ws lm lk o g) x ys) (hl:evs.length+ys.length<1000000)
  (hK: ∀J g' n',MH o g' ls lm lk vr W ws M→Sub F (unm ws lm lk o g')→OutH Xbb 5 F (Jf8 ws lm lk) o g' J (evs++ys)→(∀l b,g l=some b→X4 v≠some l→g' l=some b)→K J g' n'):Zs v x 5 40 g n K:=by
 have j: ∀l b,F l=some b→o l=none∧l∉Jf8 ws lm lk∧g l=some b:=λl b e=>by
  obtain ⟨a,O,c⟩:=Jhl (V.live e)
  exact ⟨O,a,c⟩
 refine hv.append JaC h.sys.live h.ownLive (λl b e=>⟨b,(j l b e).2.2⟩) (hx.mono Zbo) JdD (by decide) (by omega) (by omega) (λJ g' n' k1 k2 k3=> ?_)
 have I:Sub F (unm ws lm lk o g'):=JcR λl b e=>by
  obtain ⟨a,O,c⟩:=j l b e
  rw [Jdy O a,k1 l (.inr (.inl (by rw [e];exact Option.some_ne_none _)))];exact c
 obtain ⟨c,E⟩:=h.obj
 obtain ⟨bk,U,Q⟩:=h.cores
 refine hK J g' n' ⟨h.sys.same (λi c e=>k1 i (.inr (.inr (by rw [e];exact Option.some_ne_none _)))),h.len,λi w C e1 e2=>(h.co i w C e1 e2).keep (λl b hm ho Z=>⟨ho,by rw [k1 l (.inl (mem_ownL.2 (.inr (.inr ⟨w,List.mem_of_getElem? e1,hm⟩))))];exact Z⟩),h.dis,h.om,h.ok,h.nm,h.ne,
  ⟨c,by rw [k1 lm (.inl (mem_ownL.2 (.inl rfl)))];exact E⟩,⟨bk,U,by rw [k1 lk (.inl (mem_ownL.2 (.inr (.inl rfl))))];exact Q⟩,Y.mono I⟩ I k3 k2
theorem Xej: ∀(j:List Act) {M:Mc} {k:Nat},M.ok k→k+3*j.length<100000→(Za2 M j).1.ok (k+3*j.length)
 | [],_,_,h,_=>h
 | a::j,M,k,h,E=>by
  rw [List.length_cons] at E ⊢
  have:=Xej j (h.do (by omega) a) (by omega)
  show (Za2 (M.do a).1 j).1.ok _
  exact this.le (by omega)
end
end
section
variable {g:G} {n:Nat}
section
variable {o:Col Cl} {ls lm lk:Nat} {vr:Value} {W:QaI} {ws:List CW} {M:Mc} {K:Cont} {k:Nat}
theorem Qgj (i:Int) (f:Cr→Res):(M.onC i f).1.rc=M.rc:=by
 unfold Mc.onC
 split
 ·split<;>rfl
 ·rfl
theorem Jh2 (M:Mc) (a:Act):(M.do a).1.rc=M.rc:=by
 unfold Mc.do
 split
 ·exact Qgj _ _
 split
 ·exact Qgj _ _
 split
 ·rfl
 split
 ·rfl
 split
 ·unfold Mc.hearX
  split
  ·rfl
  ·exact Qgj _ _
 split
 ·rfl
 split
 ·rfl
 split
 ·rfl
 split
 ·rfl
 split<;>rfl
theorem Xfe (i:Int) (f:Cr→Res) {N:Nat} (j: ∀C,(f C).2.2.length≤N):(M.onC i f).2.length≤N:=by
 unfold Mc.onC
 split
 ·split
  ·exact Nat.zero_le _
  ·exact j _
 ·exact Nat.zero_le _
theorem ZeN (P:Sys×Int) (line:Int) (b:Bool):(M.pushX P line b).2.length≤2:=by
 unfold Mc.pushX
 show (if _ then [] else ZfN line).length≤2
 split<;>simp [ZfN]
theorem Zhi (M:Mc) (a:Act):(M.do a).2.length≤2:=by
 unfold Mc.do
 split
 ·exact Xfe _ _ λC=>Zhc C _
 split
 ·exact Xfe _ _ λC=>Nat.le_trans (Xgx C _) (by decide)
 split
 ·exact Nat.zero_le _
 split
 ·exact Nat.zero_le _
 split
 ·unfold Mc.hearX
  split
  ·exact Nat.zero_le _
  ·exact Xfe _ _ λC=>Nat.le_trans (ZgD C _) (by decide)
 split
 ·exact ZeN _ _ _
 split
 ·exact Nat.zero_le _
 split
 ·exact ZeN _ _ _
 split
 ·exact Nat.zero_le _
 split
 ·exact Nat.le_succ 1
 ·exact Nat.zero_le _
theorem Jin {a:Act} {P:Nat→List Value→G→Nat→Prop} (k: ∀g',Sub g g'→g' n=some (.cells (Zan a) .exact)→P n (Zan a) g' (n+1)):
  Zl [.int .i64 0,.int .i64 0,.int .i64 0] .exact g n λl O n1=>Jj (.agg (Zan a).toArray) λE=>E.length=3∧Qu O l 0 E λj=>Ql j l 0 3 λc=>P l c j n1:=by
 intro I
 have J:=(Sub.refl g).new I (some (.cells (Zan ⟨0,0,0⟩) .exact))
 rw [Xe]
 refine ⟨rfl,Xt (cs:=Zan ⟨0,0,0⟩) (Xa _ _ _) rfl (by simp [Zan]) (JdE a) ?_⟩
 have e:splice (Zan ⟨0,0,0⟩) 0 (Zan a)=Zan a:=rfl
 rw [e]
 refine Jt (Xa _ _ _) (by simp [Zan]) ?_
 rw [show ((Zan a).drop 0).take 3=Zan a from rfl]
 exact k _ (J.upd_fresh _ I) (Xa _ _ _)
set_option maxRecDepth 100000 in
theorem ZeG (h:MH o g ls lm lk vr W ws M) (ho:M.ok k) {v:Value} {al:List Act} (hv:Sl Zan 3 (unm ws lm lk o g) v al) (Y:Cap v 3) (hk:k+3*al.length<100000) (hK:ZcT ls lm lk vr (unm ws lm lk o g) (Za2 M al) K):
  AC XU [ptr lm 0,v] g n K:=by
 refine ACalls.fold Xb ?_
 rw [←ZbQ]
 simp only [Za6]
 refine hv.len ?_
 refine ⟨rfl,?_⟩
 rw [if_neg (by omega)]
 refine hv.to ZaY Y (Nat.le_refl _) (λv' O _=> ?_)
 rw [List.take_length] at O
 refine O.len ?_
 refine XA (m:=al.length) (Inv:=λm t g9 n9=> ∃(j:Nat) (o9:Col Cl) (W9:QaI) (J:List CW) (E:Mc) (ve:Value) (evs:List Evt),m+j=al.length∧MH o9 g9 ls lm lk vr W9 J E∧E.ok (k+3*j)∧E.rc=M.rc∧Sub (unm ws lm lk o g) (unm J lm lk o9 g9)∧
  OutH Xbb 5 (unm ws lm lk o g) (Jf8 J lm lk) o9 g9 ve evs∧evs.length≤2*j∧((Za2 E (al.drop j)).1,evs++(Za2 E (al.drop j)).2)=Za2 M al∧t 0=ptr lm 0∧t 12=v'∧t 13= .int .i64 (al.length:Nat)∧t 14= .int .i64 (j:Nat)∧t 5=ve) ?_
  ⟨0,o,W,ws,M,_,[],by omega,h,ho,rfl,Sub.refl _,OutH.nil,Nat.zero_le _,rfl,rfl,rfl,rfl,rfl,rfl⟩
 rintro I m t g9 n9 ih ⟨j,o9,W9,J,E,ve,evs,hm,h9,Q,V,s9,U,aj,e9,t0,aa,Z,ah,t5⟩
 simp only [ZaM,t0,aa,Z,ah,t5]
 refine Qcv (Jg (λae=> ?_) (λae=> ?_))
 ·have hj:j<al.length:=by omega
  obtain ⟨a,ha⟩: ∃a,al[j]? =some a:=⟨_,List.getElem?_eq_getElem hj⟩
  refine ((O.mono s9).mono Zbo).idx ZaY ha (λl oo af=> ?_)
  rw [Qb]
  refine af.ldN (by rw [ZaY]) ?_
  refine Jin (λg1 s1 x1=> ?_)
  have h1:=h9.mono s1
  have u1:=h9.subm s1
  refine Jeq h1 Q (by omega) a (λv2 o2 g2 n2 W2 ai h2 s2 e2=> ?_)
  have ab:=(s9.trans u1).trans s2
  have ak:=Zhi E a
  refine h2.app ab (by rw [Jh2,V];exact h.rc) ((U.mach u1).mach s2) e2 (by omega) (λv3 g3 n3 h3 s3 ac _=> ?_)
  rw [Jf,JL (by omega)]
  have ed:al.drop j=a::al.drop (j+1):=JbM ha
  refine ih (m-1) _ _ _ (by omega) ⟨j+1,o2,W2,ai,(E.do a).1,v3,_,by omega,h3,(Q.do (by omega) a).le (by omega),(Jh2 _ _).trans V,s3,ac,by rw [List.length_append];omega,?_,t0,aa,Z,rfl,rfl⟩
  rw [←e9,ed]
  show _=((Za2 (E.do a).1 (al.drop (j+1))).1,evs++((E.do a).2++(Za2 (E.do a).1 (al.drop (j+1))).2))
  rw [List.append_assoc]
 ·have ed:al.drop j=[]:=List.drop_of_length_le (by omega)
  rw [ed] at e9
  have ad:(E,evs)=Za2 M al:=by rw [←e9];show _=(E,evs++[]);rw [List.append_nil]
  rw [←ad] at hK
  exact Ja (Sub.refl _) (hK _ _ _ _ _ _ h9 s9 U.um)
theorem XdN {j:Nat} (E:j<M.cs.length) (h:M.calmC j=false):M.quiet=false:=by
 unfold Mc.quiet
 have:(List.range M.cs.length).all M.calmC=false:=by
  rw [List.all_eq_false]
  exact ⟨j,List.mem_range.2 E,by rw [h];decide⟩
 rw [this,Bool.false_and]
theorem Zgc {j:Nat} (E:j<M.S.c.lines.toNat) (h:(M.S.entry (j:Nat)).busy≠0):M.quiet=false:=by
 unfold Mc.quiet
 have:(List.range M.S.c.lines.toNat).all (λl=>decide ((M.S.entry (l:Nat)).busy=0))=false:=by
  rw [List.all_eq_false]
  exact ⟨j,List.mem_range.2 E,by simpa using h⟩
 rw [this,Bool.and_false]
theorem JgB (I: ∀i,i<M.cs.length→M.calmC i=true) (E: ∀i,i<M.S.c.lines.toNat→(M.S.entry (i:Nat)).busy=0):M.quiet=true:=by
 unfold Mc.quiet
 rw [Bool.and_eq_true,List.all_eq_true,List.all_eq_true]
 exact ⟨λi j=>I i (List.mem_range.1 j),λi j=>decide_eq_true (E i (List.mem_range.1 j))⟩
set_option maxRecDepth 100000 in
theorem Zbb (h:MH o g ls lm lk vr W ws M) (ho:M.ok k) (hk:k<100000) (hK: ∀g' n' W',MH o g' ls lm lk vr W' ws M→Sub (unm ws lm lk o g) (unm ws lm lk o g')→K (.bool M.quiet) g' n'):AC Xp [ptr lm 0] g n K:=by
 refine ACalls.fold Xb ?_
 rw [←Qbx]
 simp only [Ja2,Qd,Qb]
 refine QaE (Xo (λh=>nomatch h) (λ_=> ?_))
 obtain ⟨c,aA⟩:=h.obj
 refine Zb aA (show _=some (Value.slice (some ⟨lk,0,none⟩) ws.length c) from rfl) ?_
 rw [XbU]
 have aX:=h.len
 have aV:ws.length≤8:=by have:=ho.len;have:=ho.wf.c.cores;omega
 refine XA (m:=ws.length) (Inv:=λm t g9 n9=> ∃(j:Nat) (W9:QaI),m+j=ws.length∧MH o g9 ls lm lk vr W9 ws M∧Sub (unm ws lm lk o g) (unm ws lm lk o g9)∧(∀i,i<j→M.calmC i=true)∧t 0=ptr lm 0∧t 16= .slice (some ⟨lk,0,none⟩) ws.length c∧t 17= .int .i64 (ws.length:Nat)∧t 18= .int .i64 (j:Nat)) ?_
  ⟨0,W,by omega,h,Sub.refl _,λi hi=>absurd hi (by omega),rfl,rfl,rfl,rfl⟩
 rintro I m t g9 n9 ih ⟨j,W9,hm,h9,s9,ab,t0,au,al,ay⟩
 simp only [ZaI,t0,au,al,ay,Qd,Qb]
 have Y: ∀(i:Nat) N,M.S.nodes[i]? =some N→N.up.length<1000000∧N.ans.length<1000000∧N.dn.length<1000000:=λi N hN=>by
  have:=ho.wf.nd i N hN
  exact ⟨by have:=this.up.1;omega,by have:=this.ans.1;omega,by have:=this.dn.1;omega⟩
 have ae: ∀{g':G} {n':Nat} {W':QaI},MH o g' ls lm lk vr W' ws M→Sub (unm ws lm lk o g) (unm ws lm lk o g')→M.quiet=false→Zc K (.bool false) g' n':=by
  intro g' n' W' h' s' e
  rw [e] at hK
  exact Ja (Sub.refl _) (hK _ _ _ h' s')
 refine Qcv (Jg (λaM=> ?_) (λaM=> ?_))
 ·have hj:j<ws.length:=by omega
  obtain ⟨w,hw⟩: ∃w,ws[j]? =some w:=⟨_,List.getElem?_eq_getElem hj⟩
  obtain ⟨C,hC⟩: ∃C,M.cs[j]? =some C:=⟨_,List.getElem?_eq_getElem (by omega)⟩
  have E:M.calmC j=((!C.runs&&C.still)&&M.S.calmAt j):=by unfold Mc.calmC;rw [hC]
  obtain ⟨c9,O⟩:=h9.obj
  obtain ⟨aY,_,ax⟩:=h9.cores
  refine Zr (by omega) (by omega) ?_
  rw [Qb,Int.toNat_natCast]
  refine Zb ax (ZhM hw) ?_
  refine Zb O (show _=some (ptr ls 0) from rfl) ?_
  refine XeG h9.sys Y (j:Nat) (λv1 v2 v3 g1 n1 W1 u1 aI q1 q2 q3=> ?_)
  have h1:MH o g1 ls lm lk vr W1 ws M:=h9.sysop u1 aI
  have s1:=s9.trans (ZaR (ws:=ws) (lm:=lm) (lk:=lk) u1)
  refine Jar rfl (Jar rfl (Jar rfl ?_))
  refine Zf1 (h1.co j w C hw hC) (λn2=>Xo (λhr=> ?_) (λhr=> ?_))
  ·exact ae h1 s1 (XdN (j:=j) (by omega) (by rw [E,hr];rfl))
  refine ZeU (h1.co j w C hw hC) (λv4 g2 n3 s2 e4=> ?_)
  have h2:=h1.mono s2
  have av:=s1.trans (h1.subm s2)
  have u2:=Sub.uncs h1.sys.live s2
  refine e4.len ?_
  refine Xfg (h2.co j w C hw hC) (λn4=> ?_)
  have aT:=(ho.cs j C hC).1.waits
  have aU:=(ho.cs j C hC).1.b
  have aW:=(ho.cs j C hC).1.room
  obtain ⟨l1,l2,l3⟩:(M.S.queues (j:Nat)).1.length<1000000∧(M.S.queues (j:Nat)).2.1.length<1000000∧(M.S.queues (j:Nat)).2.2.length<1000000:=by
   unfold Sys.queues
   split
   ·exact ⟨by decide,by decide,by decide⟩
   ·rename_i i N ha
    exact Y i N (Sys.at_some ha).2
  rw [Jf,Qg (by omega) (by omega)]
  refine (q1.mono u2).len ?_
  rw [Jf,Qg (by omega) (by omega)]
  refine (q2.mono u2).len ?_
  rw [Jf,Qg (by omega) (by omega)]
  refine (q3.mono u2).len ?_
  rw [Jf,Qg (by omega) (by omega)]
  refine Qf9 (Jg (λad=> ?_) (λad=> ?_))
  ·refine ae h2 av (XdN (j:=j) (by omega) ?_)
   rw [E]
   cases hst:(!C.runs&&C.still) with
   | false=>rfl
   | true=>
    rw [Bool.true_and]
    cases hca:M.S.calmAt j with
    | false=>rfl
    | true=>
     exfalso
     unfold Sys.calmAt at hca
     simp only [Bool.and_eq_true,List.isEmpty_iff] at hca
     unfold Cr.still at hst
     simp only [Bool.and_eq_true,List.isEmpty_iff,decide_eq_true_eq] at hst
     rw [hca.1.1.1,hca.1.1.2,hca.1.2,hst.2.1,hst.2.2] at ad
     exact absurd ad (by decide)
  ·obtain ⟨c2,aj⟩:=h2.obj
   refine Zb aj (show _=some (ptr ls 0) from rfl) ?_
   have b0:C.b=[]:=List.eq_nil_of_length_eq_zero (by omega)
   have w0:C.waits=0:=by omega
   have e1:(M.S.queues (j:Nat)).1=[]:=List.eq_nil_of_length_eq_zero (by omega)
   have e2:(M.S.queues (j:Nat)).2.1=[]:=List.eq_nil_of_length_eq_zero (by omega)
   have e3:(M.S.queues (j:Nat)).2.2=[]:=List.eq_nil_of_length_eq_zero (by omega)
   have Q:(!C.runs&&C.still)=true:=by unfold Cr.still;rw [hr,b0,w0];rfl
   refine Xff h2.sys (ho.wf.fit hk) (j:Nat) (λv5 g3 n5 W3 u3 aC aw=> ?_)
   have h3:MH o g3 ls lm lk vr W3 ws M:=h2.sysop u3 aC
   have s3:=av.trans (ZaR (ws:=ws) (lm:=lm) (lk:=lk) u3)
   refine aw.len ?_
   have aD: ∀(t':Env),t' 0=ptr lm 0→t' 16= .slice (some ⟨lk,0,none⟩) ws.length c→t' 17= .int .i64 (ws.length:Nat)→t' 18= .int .i64 (j:Nat)→t' 58=v5→t' 59= .int .i64 ((M.S.slots (j:Nat)).length:Nat)→t' 60= .int .i64 0→lfp (Qaa AC K I) t' g3 n5:=by
    intro t' q0 aH aG aK aO aP aJ
    have aN:(M.S.slots (j:Nat)).length<1000:=by
     unfold Sys.slots
     split
     ·decide
     ·rename_i i N ha
      have aE:=(ho.wf.nd i N (Sys.at_some ha).2).gd.ok
      obtain ⟨a1,a2,a3,a4,_⟩:=aE
      have hm:N.A.sets*N.A.ways≤8*8:=Nat.mul_le_mul (by omega) a3
      have:=List.length_filter_le (λs:St=> !decide (s.state=0)) N.A.l
      show (List.filter _ N.A.l).length<1000
      omega
    refine XA (m:=(M.S.slots (j:Nat)).length) (Inv:=λq U gg nn=> ∃(i:Nat),q+i=(M.S.slots (j:Nat)).length∧Sub g3 gg∧(∀s∈(M.S.slots (j:Nat)).take i,s.state≤3)∧U 0=ptr lm 0∧U 16= .slice (some ⟨lk,0,none⟩) ws.length c∧U 17= .int .i64 (ws.length:Nat)∧U 18= .int .i64 (j:Nat)∧U 58=v5∧U 59= .int .i64 ((M.S.slots (j:Nat)).length:Nat)∧U 60= .int .i64 (i:Nat)) ?_
     ⟨0,by omega,Sub.refl _,by simp,q0,aH,aG,aK,aO,aP,aJ⟩
    rintro I2 q U gg nn ai ⟨i,hq,sg,J,r0,ar,ap,az,am,aB,aQ⟩
    simp only [Qaa,am,aB,aQ,az]
    have hg:=h3.mono sg
    have aa:=s3.trans (h3.subm sg)
    refine Qcv (Jg (λac=> ?_) (λac=> ?_))
    ·have hi:i<(M.S.slots (j:Nat)).length:=by omega
     obtain ⟨s,hs⟩: ∃s,(M.S.slots (j:Nat))[i]? =some s:=⟨_,List.getElem?_eq_getElem hi⟩
     refine ((aw.mono (Sub.uncs h3.sys.live sg)).mono (JZ _ _)).idx Qh hs (λl oo aR=> ?_)
     rw [Qb]
     refine aR.ldN (by rw [Qh]) ?_
     intro hn
     have sn:=(Sub.refl gg).new hn (some (.cells (encS XaR) .exact))
     rw [Xe]
     refine ⟨Qh s,Xt (cs:=encS XaR) (Xa _ _ _) rfl (by rw [Qh,Qh];decide) (Zar s) ?_⟩
     rw [Jw (by rw [Qh,Qh])]
     refine Zb (Xa _ _ _) (show (encS s)[0+0]? =some (.int .i64 s.state) from rfl) ?_
     have ak:=sn.upd_fresh (some (.cells (encS s) .exact)) hn
     refine Qf9 (Jg (λan=> ?_) (λan=> ?_))
     ·refine ae (hg.mono ak) (aa.trans (hg.subm ak)) (XdN (j:=j) (by omega) ?_)
      rw [E,Q,Bool.true_and]
      unfold Sys.calmAt
      have:(M.S.slots (j:Nat)).all (λs=>decide (s.state≤3))=false:=by
       rw [List.all_eq_false]
       exact ⟨s,List.mem_of_getElem? hs,by simpa using an⟩
      rw [this,Bool.and_false]
     ·rw [Jf,JL (by omega)]
      refine ai (q-1) _ _ _ (by omega) ⟨i+1,by omega,sg.trans ak,λx hx=> ?_,r0,ar,ap,az,am,aB,rfl⟩
      rw [take_add hs] at hx
      rcases List.mem_append.1 hx with hx|hx
      ·exact J x hx
      ·rcases List.mem_singleton.1 hx with rfl;omega
    ·have aq: ∀s∈M.S.slots (j:Nat),s.state≤3:=by
      rw [List.take_of_length_le (by omega)] at J;exact J
     rw [Jf,JL (by omega)]
     refine ih (m-1) _ _ _ (by omega) ⟨j+1,_,by omega,hg,aa,λV Z=> ?_,r0,ar,ap,rfl⟩
     by_cases e:V=j
     ·subst e
      rw [E,Q,Bool.true_and]
      unfold Sys.calmAt
      rw [e1,e2,e3,List.all_eq_true.2 (λs hs=>decide_eq_true (aq s hs))];rfl
     ·exact ab V (by omega)
   exact aD _ t0 au al ay rfl rfl rfl
 ·have j3: ∀(t':Env),t' 0=ptr lm 0→Qab AC K t' g9 n9:=by
   intro t' t0
   simp only [Qab,t0,Qd,Qb]
   obtain ⟨c9,O⟩:=h9.obj
   refine Zb O (show _=some (ptr ls 0) from rfl) ?_
   refine Jca h9.sys (λg1 n1 s1=> ?_)
   have h1:=h9.mono s1
   have aF:=s9.trans (h9.subm s1)
   simp only [Xe]
   refine XeZ (show (Ju M.S.c)[1]? =some (.int .i64 M.S.c.lines) from rfl) ?_
   have aS:=ho.wf.c.lines
   refine XA (m:=M.S.c.lines.toNat) (Inv:=λq U gg nn=> ∃(i:Nat),q+i=M.S.c.lines.toNat∧Sub g1 gg∧(∀V,V<i→(M.S.entry (V:Nat)).busy=0)∧U 0=ptr lm 0∧U 74= .int .i64 M.S.c.lines∧U 75= .int .i64 (i:Nat)) ?_
    ⟨0,by omega,Sub.refl _,λV Z=>absurd Z (by omega),t0,rfl,rfl⟩
   rintro I2 q U gg nn ai ⟨i,hq,sg,J,r0,ao,aL⟩
   simp only [JaI,r0,ao,aL,Qd,Qb]
   have hg:=h1.mono sg
   have aa:=aF.trans (h1.subm sg)
   refine Qcv (Jg (λac=> ?_) (λac=> ?_))
   ·obtain ⟨cg,af⟩:=hg.obj
    refine Zb af (show _=some (ptr ls 0) from rfl) ?_
    refine Jdw hg.sys (i:Nat) (λg2 n2 s2=> ?_)
    simp only [Xe]
    refine XeZ (JcU _) ?_
    refine Zbq (Jg (λah=> ?_) (λah=> ?_))
    ·exact ae (hg.mono s2) (aa.trans (hg.subm s2)) (Zgc (j:=i) (by omega) ah)
    ·rw [Jf,JL (by omega)]
     refine ai (q-1) _ _ _ (by omega) ⟨i+1,by omega,sg.trans s2,λV Z=> ?_,r0,ao,rfl⟩
     by_cases e:V=i
     ·subst e;simpa using ah
     ·exact J V (by omega)
   ·have e:M.quiet=true:=JgB (λV Z=>ab V (by omega)) (λV Z=>J V (by omega))
    rw [e] at hK
    exact Ja (Sub.refl _) (hK _ _ _ hg aa)
  exact j3 _ t0
theorem Zcj (h:MH o g ls lm lk vr W ws M) (E: ∀n',K (ptr ls 0) g n'):AC XB [ptr lm 0] g n K:=by
 refine ACalls.fold Xb ?_
 rw [←Zbs]
 simp only [JaR,Qd,Qb]
 refine QaE (Xo (λh=>nomatch h) (λ_=> ?_))
 obtain ⟨c,j⟩:=h.obj
 exact Zb j (show _=some (ptr ls 0) from rfl) (Ja (Sub.refl _) (E _))
theorem Xe0 (h:MH o g ls lm lk vr W ws M) (E: ∀n',K (.int .i64 M.fails) g n'):AC Xab [ptr lm 0] g n K:=by
 refine ACalls.fold Xb ?_
 rw [←Qby]
 simp only [Xa1,Qd,Qb]
 refine QaE (Xo (λh=>nomatch h) (λ_=> ?_))
 obtain ⟨c,j⟩:=h.obj
 exact Zb j (show _=some (Value.int .i64 M.fails) from rfl) (Ja (Sub.refl _) (E _))
end
end
end Go.Proofs.YtmchcjaomcdbmaaGreat.Gen
namespace Go.Proofs.YtmchcjaomcdbmaaGreat.Abs
open Go Go.Proofs.YtmchcjaomcdbmaaGreat.Abs Go.RowKit
section
variable {g:G} {n:Nat}
def JhU:G:=λ_=>none
theorem JgD (g:G):Sub JhU g:=λ_=> .inl rfl
def Xb2 (v:Value):List Nat:=(X4 v).toList
theorem mem_blks {v:Value} {l:Nat}:l∈Xb2 v↔X4 v=some l:=by simp [Xb2]
def Upd (fp fp':List Nat) (g g':G):Prop:=(∀l b,g l=some b→l∉fp→g' l=some b)∧(∀l∈fp',l∈fp∨g l=none)
theorem Upd.refl (j:List Nat) (g:G):Upd j j g g:=⟨λ_ _ h _=>h,λ_ h=> .inl h⟩
theorem Upd.sub {j:List Nat} {g g':G} (h:Sub g g'):Upd j j g g':=⟨λ_ _ E _=>h.live E,λ_ h=> .inl h⟩
theorem Upd.trans {a b c:List Nat} {g I g2:G} (h:Upd a b g I) (k:Upd b c I g2):Upd a c g g2:=by
 refine ⟨λl x E J=>k.1 l x (h.1 l x E J) (λhb=> ?_),λl E=> ?_⟩
 ·rcases h.2 l hb with j|j
  ·exact J j
  ·rw [j] at E;cases E
 ·rcases k.2 l E with j|j
  ·exact h.2 l j
  ·by_cases hx:l∈a
   ·exact .inl hx
   ·refine .inr ?_
    cases hg:g l with
    | none=>rfl
    | some x=>rw [h.1 l x hg hx] at j;cases j
def Jeo (lb:Nat) (fs:List Value):List Nat:=lb::fs.flatMap Xb2
structure Ob (g:G) (lb:Nat) (fs:List Value):Prop where
 nd:(Jeo lb fs).Nodup
 live: ∀l∈fs.flatMap Xb2,∃b,g l=some b
theorem XfX (v:Value):(Xb2 v).Nodup:=by simp only [Xb2];cases X4 v<;>simp
theorem Ob.keep {lb:Nat} {fs:List Value} {g':G} (h:Ob g lb fs) (E: ∀l b,g l=some b→l∈Jeo lb fs→g' l=some b):Ob g' lb fs:=
 ⟨h.nd,λl j=>let ⟨b,hb⟩:=h.live l j;⟨b,E l b hb (List.mem_cons_of_mem _ j)⟩⟩
theorem Ob.app {lb:Nat} {A B:List Value} {v O:Value} {I:G} {b0 V:Blk} (h:Ob g lb (A++v::B)) (J:g lb=some b0) (hk: ∀l b,g l=some b→l∉Xb2 v→I l=some b) (hf: ∀l∈Xb2 O,g l=none)
  (ht: ∀l∈Xb2 O,∃b,I l=some b):
  Ob (upd I lb (some V)) lb (A++O::B)∧(∀w∈A++B,∀l b,g l=some b→l∈Xb2 w→upd I lb (some V) l=some b)∧(∀l b,I l=some b→l∈Xb2 O→upd I lb (some V) l=some b)∧
   Upd (Jeo lb (A++v::B)) (Jeo lb (A++O::B)) g (upd I lb (some V))∧I lb=some b0:=by
 have nd:=h.nd
 simp only [Jeo,List.flatMap_append,List.flatMap_cons,List.nodup_cons,List.mem_append,List.nodup_append,not_or] at nd
 obtain ⟨⟨n1,n2,n3⟩,n4,⟨n5,n6,n7⟩,n8⟩:=nd
 have lv: ∀l,(l∈A.flatMap Xb2∨l∈B.flatMap Xb2)→ ∃b,g l=some b:=λl j=>h.live l (by simp only [List.flatMap_append,List.flatMap_cons,List.mem_append];rcases j with h|h;exact .inl h;exact .inr (.inr h))
 have fr: ∀l∈Xb2 O,l≠lb∧l∉A.flatMap Xb2∧l∉B.flatMap Xb2:=λl j=>by
  refine ⟨λe=> ?_,λe=> ?_,λe=> ?_⟩
  ·rw [←e,hf l j] at J;cases J
  ·obtain ⟨b,hb⟩:=lv l (.inl e);rw [hf l j] at hb;cases hb
  ·obtain ⟨b,hb⟩:=lv l (.inr e);rw [hf l j] at hb;cases hb
 have Z: ∀l,(l∈A.flatMap Xb2∨l∈B.flatMap Xb2)→l≠lb∧l∉Xb2 v:=λl j=>by
  refine ⟨λe=> ?_,λe=> ?_⟩
  ·subst e;exact j.elim n1 n3
  ·rcases j with h|h
   ·exact n8 l h l (.inl e) rfl
   ·exact n7 l e l h rfl
 have E: ∀l b,g l=some b→(l∈A.flatMap Xb2∨l∈B.flatMap Xb2)→upd I lb (some V) l=some b:=λl b U Q=>by
  rw [Zd _ _ (Z l Q).1];exact hk l b U (Z l Q).2
 refine ⟨⟨?_,?_⟩,?_,?_,⟨?_,?_⟩,hk lb b0 J n2⟩
 ·simp only [Jeo,List.flatMap_append,List.flatMap_cons,List.nodup_cons,List.mem_append,List.nodup_append,not_or]
  refine ⟨⟨n1,λe=>(fr _ e).1 rfl,n3⟩,n4,⟨XfX O,n6,λa ha b hb e=>(fr a ha).2.2 (e▸hb)⟩,λa ha b hb e=> ?_⟩
  rcases hb with hb|hb
  ·exact (fr b hb).2.1 (e▸ha)
  ·exact n8 a ha b (.inr hb) e
 ·intro l j
  simp only [List.flatMap_append,List.flatMap_cons,List.mem_append] at j
  rcases j with j|j|j
  ·obtain ⟨b,hb⟩:=lv l (.inl j);exact ⟨b,E l b hb (.inl j)⟩
  ·obtain ⟨b,hb⟩:=ht l j;exact ⟨b,by rw [Zd _ _ (fr l j).1];exact hb⟩
  ·obtain ⟨b,hb⟩:=lv l (.inr j);exact ⟨b,E l b hb (.inr j)⟩
 ·intro w Y l b U Q
  refine E l b U ?_
  rcases List.mem_append.1 Y with Y|Y
  ·exact .inl (List.mem_flatMap.2 ⟨w,Y,Q⟩)
  ·exact .inr (List.mem_flatMap.2 ⟨w,Y,Q⟩)
 ·intro l b U Q;rw [Zd _ _ (fr l Q).1];exact U
 ·intro l b j hn
  simp only [Jeo,List.flatMap_append,List.flatMap_cons,List.mem_cons,List.mem_append,not_or] at hn
  rw [Zd _ _ hn.1];exact hk l b j hn.2.2.1
 ·intro l j
  simp only [Jeo,List.flatMap_append,List.flatMap_cons,List.mem_cons,List.mem_append] at j
  rcases j with rfl|j|j|j
  ·exact .inl (by simp [Jeo])
  ·exact .inl (by simp [Jeo];exact .inr (.inl (by simpa using j)))
  ·exact .inr (hf l j)
  ·exact .inl (by simp [Jeo];exact .inr (.inr (.inr (by simpa using j))))
theorem Ob.cell {lb:Nat} {j:List Value} {V J:Blk} (h:Ob g lb j) (U:g lb=some V):
  Ob (upd g lb (some J)) lb j∧(∀w∈j,∀l b,g l=some b→l∈Xb2 w→upd g lb (some J) l=some b)∧Upd (Jeo lb j) (Jeo lb j) g (upd g lb (some J)):=by
 have nd:=h.nd
 simp only [Jeo,List.nodup_cons] at nd
 have ne: ∀l∈j.flatMap Xb2,l≠lb:=λl E e=>nd.1 (e▸E)
 refine ⟨⟨h.nd,λl E=> ?_⟩,λw Q l b I O=> ?_,⟨λl b I O=> ?_,λl E=> .inl E⟩⟩
 ·obtain ⟨b,hb⟩:=h.live l E;exact ⟨b,by rw [Zd _ _ (ne l E)];exact hb⟩
 ·rw [Zd _ _ (ne l (List.mem_flatMap.2 ⟨w,Q,O⟩))];exact I
 ·rw [Zd _ _ (λe=>O (by simp [Jeo,e]))];exact I
theorem Ob.elem {lb j:Nat} {A B:List Value} {v:Value} {I:Blk} (h:Ob g lb (A++v::B)) (J:j∈Xb2 v):
  Ob (upd g j (some I)) lb (A++v::B)∧(∀w∈A++B,∀l b,g l=some b→l∈Xb2 w→upd g j (some I) l=some b)∧(∀b,g lb=some b→upd g j (some I) lb=some b)∧Upd (Jeo lb (A++v::B)) (Jeo lb (A++v::B)) g (upd g j (some I)):=by
 have nd:=h.nd
 simp only [Jeo,List.flatMap_append,List.flatMap_cons,List.nodup_cons,List.mem_append,List.nodup_append,not_or] at nd
 obtain ⟨⟨n1,n2,n3⟩,Z,⟨n5,n6,V⟩,Y⟩:=nd
 refine ⟨⟨h.nd,λl U=> ?_⟩,λw E l b Q O=> ?_,λb hb=> ?_,⟨λl b Q O=> ?_,λl U=> .inl U⟩⟩
 ·by_cases e:l=j
  ·subst e;exact ⟨_,Xa _ _ _⟩
  ·obtain ⟨b,hb⟩:=h.live l U;exact ⟨b,by rw [Zd _ _ e];exact hb⟩
 ·rw [Zd];exact Q
  rintro rfl
  rcases List.mem_append.1 E with E|E
  ·exact Y l (List.mem_flatMap.2 ⟨w,E,O⟩) l (.inl J) rfl
  ·exact V l J l (List.mem_flatMap.2 ⟨w,E,O⟩) rfl
 ·rw [Zd];exact hb
  rintro rfl;exact n2 J
 ·rw [Zd];exact Q
  rintro rfl;exact O (by simp [Jeo];exact .inr (.inr (.inl J)))
theorem OwnS.isCell {α:Type} {enc:α→List Value} {z:Nat} {g g0:G} {v:Value} {xs:List α} (h:OwnS enc z g0 g v xs):Abs.isCell v=true:=by
 rcases h with ⟨_,_,a,rfl,_⟩|⟨l,c,bk,rfl,_⟩<;>rfl
end
section
variable {g:G} {n:Nat}
section
variable {α:Type} {R:G→List Value→α→Prop} {z:Nat} {v:Value} {xs:List α}
theorem SlR.mono {g':G} (E: ∀c x,R g c x→R g' c x) (h:SlR R z g v xs) (s:Sub g g'):SlR R z g' v xs:=by
 obtain ⟨els,I,J,j⟩:=h
 exact ⟨els,I.mono s,J,λi c x hc hx=>⟨(j i c x hc hx).1,E c x (j i c x hc hx).2⟩⟩
theorem SlR.len {K:Value→Prop} (h:SlR R z g v xs) (k:K (.int .i64 xs.length)):Jak v K:=by
 obtain ⟨els,j,I,E⟩:=h
 exact j.len k
theorem Zfk {z:Nat}: ∀(els:List (List Value)) (j:Nat) (c:List Value),(∀c∈els,c.length=z)→els[j]? =some c→(els.flatten.drop (j*z)).take z=c
 | [],j,c,_,h=>by simp at h
 | a::r,0,c,E,h=>by
  simp at h;subst h
  have:=E a (by simp)
  simp [List.take_append_of_le_length,this]
 | a::r,j+1,c,E,h=>by
  have I:=E a (by simp)
  rw [List.flatten_cons,List.drop_append,List.drop_eq_nil_of_le (by rw [I,Nat.add_mul];omega),List.nil_append,I,Nat.add_mul,Nat.one_mul,Nat.add_sub_cancel]
  exact Zfk r j c (λc hc=>E c (List.mem_cons_of_mem _ hc)) (by simpa using h)
theorem SlR.idx {j:Nat} {x:α} {kk:IntKind} {K:Value→Prop} (h:SlR R z g v xs) (E:xs[j]? =some x) (k: ∀l o c,At g l o c→c.length=z→R g c x→K (ptr l o)):Jd v (.int kk j) z K:=by
 obtain ⟨els,Q,h2,I⟩:=h
 have Z:j<xs.length:=(List.getElem?_eq_some_iff.1 E).1
 have hc:els[j]? =some (els[j]'(by omega)):=List.getElem?_eq_getElem (by omega)
 generalize els[j]'(by omega)=c at hc
 have Y: ∀c∈els,c.length=z:=λc hc=>by
  obtain ⟨i,U,rfl⟩:=List.mem_iff_getElem.1 hc
  exact (I i _ _ (List.getElem?_eq_getElem U) (List.getElem?_eq_getElem (by omega))).1
 obtain ⟨V,O⟩:=I j c x hc E
 refine Q.idx (by omega) (by omega) (λl o J=>k l o c ?_ V O)
 rw [Int.toNat_natCast,Zfk els j c Y hc] at J
 exact J
end
end
section
variable {g:G} {n:Nat}
section
variable {α:Type} {R:G→List Value→α→Prop} {z:Nat} {v:Value} {xs:List α}
def Dif (gS g gH:G):Prop:= ∀l b,g l=some b→gS l=none→gH l=some b
theorem Dif.refl (j g:G):Dif j g g:=λ_ _ h _=>h
def ZdV (g:G) (v:Value):G:=λl=>if l∈Xb2 v then none else g l
theorem hideV_some {l:Nat} {b:Blk}:ZdV g v l=some b↔l∉Xb2 v∧g l=some b:=by
 unfold ZdV;by_cases h:l∈Xb2 v<;>simp [h]
structure BB (R:G→List Value→α→Prop) (z:Nat) (gS g:G) (v:Value) (xs:List α):Prop where
 els: ∃els:List (List Value),Own JhU g v z els.length els.flatten∧els.length=xs.length∧ ∀(i:Nat) c x,els[i]? =some c→xs[i]? =some x→c.length=z∧(∀gH,Dif gS (ZdV g v) gH→R gH c x)
 sub:Sub gS (ZdV g v)
 live: ∀l∈Xb2 v,∃b,g l=some b
theorem BB.nil (j:G):BB R z j j (.slice none 0 0) []:=
 ⟨⟨[],Own.nil _ _ _,rfl,by simp⟩,by intro l;right;simp [ZdV,Xb2,X4],by simp [Xb2,X4]⟩
theorem BB.sub' {E:G} (h:BB R z E g v xs):Sub E g:=λl=>by
 rcases h.sub l with j|j
 ·exact .inl j
 ·unfold ZdV at j
  by_cases hl:l∈Xb2 v
  ·rw [if_pos hl] at j;exact .inl j
  ·rw [if_neg hl] at j;exact .inr j
theorem BB.app {gS J:G} {c:List Value} {x:α} {bytes:Nat} {K:Cont} (h:BB R z gS g v xs) (s:Sub g J) (hc:c.length=z) (O: ∀v∈c,isCell v=true) (hR: ∀U,Dif g J U→R U c x) (hn:J n=none) (hb:bytes≤1024) (ad:xs.length≤1000000)
  (hK: ∀Q g' n',BB R z gS g' Q (xs++[x])→K Q g' n'):Zs v (.slice (some ⟨n,0,none⟩) 1 1) z bytes (upd J n (some (.cells c .exact))) (n+1) K:=by
 obtain ⟨els,h1,h2,h3⟩:=h.els
 have s2:=(Sub.refl J).new hn (some (.cells c .exact))
 have aa:=s.trans s2
 have hm:(els.length+1)*bytes≤1000001*1024:=Nat.mul_le_mul (by omega) hb
 have hx:Rd (upd J n (some (.cells c .exact))) (.slice (some ⟨n,0,none⟩) 1 1) z 1 c:=Rd.lit (Xa _ _ _) (by omega)
 refine Jd8 (JgD _) (h1.mono aa) hx O (by omega) (by omega) (by omega) (λQ g' n' _ h4 h5 h6=> ?_)
 have hk: ∀l b,g l=some b→l∉Xb2 v→g' l=some b:=λl b I ab=>h5 l b (aa.live I) (λe=>ab (mem_blks.2 e))
 have hf: ∀l∈Xb2 Q,J l=none:=λl I=>s2.none (h6 (by decide) l (mem_blks.1 I))
 have Y:Sub (ZdV g v) (ZdV g' Q):=λl=>by
  cases hq:ZdV g v l with
  | none=>exact .inl rfl
  | some b=>
   obtain ⟨q1,V⟩:=hideV_some.1 hq
   exact .inr (hideV_some.2 ⟨(λhm=>by rw [s.none (hf l hm)] at V;cases V),hk l b V q1⟩).symm
 refine hK Q g' n' ⟨⟨els++[c],by simpa using h4,by simp [h2],λi c2 x2 j E=> ?_⟩,h.sub.trans Y,λl I=> ?_⟩
 ·rcases Nat.lt_or_ge i els.length with hi|hi
  ·rw [List.getElem?_append_left hi] at j
   rw [List.getElem?_append_left (by omega)] at E
   obtain ⟨q1,V⟩:=h3 i c2 x2 j E
   exact ⟨q1,λU hD=>V U λl b I hS=>hD l b (Y.live I) hS⟩
  ·rw [List.getElem?_append_right hi] at j
   rw [List.getElem?_append_right (by omega)] at E
   have e1:i-els.length=0:=by
    rcases Nat.eq_zero_or_pos (i-els.length) with h|h
    ·exact h
    ·rw [List.getElem?_eq_none (by simp;omega)] at j;cases j
   have e2:i-xs.length=0:=by omega
   rw [e1] at j;rw [e2] at E
   simp at j E;subst j;subst E
   refine ⟨hc,λU hD=>hR U λl b I hS=> ?_⟩
   have ac:l∉Xb2 v:=λhm=>by obtain ⟨b',Z⟩:=h.live l hm;rw [hS] at Z;cases Z
   refine hD l b (hideV_some.2 ⟨(λhm=>by rw [hf l hm] at I;cases I),h5 l b (s2.live I) (λe=>ac (mem_blks.2 e))⟩) ?_
   exact h.sub'.none hS
 ·rcases h4 with ⟨h0,_⟩|⟨l',c',bk,rfl,hg,_⟩
  ·omega
  ·simp [Xb2,X4] at I;subst I;exact ⟨_,hg⟩
theorem BB.done {Q:G} (h:BB R z Q g v xs): ∀j,Dif Q g j→SlR R z j v xs:=λj O=>by
 obtain ⟨els,Z,U,h3⟩:=h.els
 refine ⟨els,?_,U,λi c x hc hx=> ?_⟩
 ·have:=Z.rd
  rw [U] at this
  obtain ⟨a,cc,rfl,I,E,q3⟩:=this
  refine ⟨a,cc,rfl,I,E,λV=> ?_⟩
  obtain ⟨l,o,bs,bk,rfl,hg,q4⟩:=q3 V
  refine ⟨l,o,bs,bk,rfl,O l _ hg ?_,q4⟩
  rcases h.sub l with J|J
  ·exact J
  ·rw [J];unfold ZdV;rw [if_pos (by simp [Xb2,X4])]
 ·obtain ⟨I,E⟩:=h3 i c x hc hx
  exact ⟨I,E j λl b Y hS=>O l b (hideV_some.1 Y).2 hS⟩
end
end
end Go.Proofs.YtmchcjaomcdbmaaGreat.Abs
namespace Go.Proofs.YtmchcjaomcdbmaaGreat.Gen
open Go Go.Proofs.YtmchcjaomcdbmaaGreat.Abs Go.RowKit
section
variable {g:G} {n:Nat}
section
variable {K:Cont}
def QcC (i k:Nat):List Act:=(List.range k).map λj=>⟨((j+1:Nat):Int),(i:Nat),0⟩
def QdD (i:Nat):List Act:=[⟨6,0,(i:Nat)⟩,⟨9,0,(i:Nat)⟩]
def Qaz (c:Cfg):List Act:=((List.range c.cores.toNat).map λi=>QcC i 5).flatten++((List.range c.lines.toNat).map QdD).flatten
theorem ZeS (i k:Nat):(QcC i k).length=k:=by unfold QcC;simp
theorem Jc8 (k:Nat):((List.range k).map λi=>QcC i 5).flatten.length=5*k:=by
 induction k with
 | zero=>rfl
 | succ k j=>rw [List.range_succ,List.map_append,List.flatten_append,List.length_append,j];simp [ZeS];omega
theorem Xd0 (k:Nat):((List.range k).map QdD).flatten.length=2*k:=by
 induction k with
 | zero=>rfl
 | succ k j=>rw [List.range_succ,List.map_append,List.flatten_append,List.length_append,j];simp [QdD];omega
theorem QfJ {c:Cfg} (hc:c.good):(Qaz c).length≤168:=by
 unfold Qaz
 rw [List.length_append,Jc8,Xd0]
 have:=hc.cores;have:=hc.lines
 omega
set_option maxRecDepth 100000 in
theorem Qd3 {c:Cfg} (hc:c.good) (hK: ∀v g' n',Sub g g'→OwnS Zan 3 g g' v (Qaz c)→K v g' n'):AC Z4 [.agg (Ju c).toArray] g n K:=by
 refine ACalls.fold Xb ?_
 rw [←Xcc]
 simp only [Jbk,Xe]
 intro hn
 have s1:=(Sub.refl g).new hn (some (.cells (Ju c) .exact))
 have x1:upd g n (some (.cells (Ju c) .exact)) n=some (.cells (Ju c) .exact):=Xa _ _ _
 generalize upd g n (some (.cells (Ju c) .exact))=g1 at s1 x1
 generalize n+1=n0
 have ah:=hc.cores
 have ai:=hc.lines
 refine XA (m:=c.cores.toNat) (Inv:=λm t g9 n9=> ∃(j:Nat) (w:Value),m+j=c.cores.toNat∧t 1=ptr n 0∧t 3=w∧t 4= .int .i64 (j:Nat)∧Sub g1 g9∧OwnS Zan 3 g1 g9 w ((List.range j).map λi=>QcC i 5).flatten) ?_
  ⟨0,_,by omega,rfl,rfl,rfl,Sub.refl _,OwnS.nil⟩
 rintro I m t g9 n9 ih ⟨j,w,hm,Y,q3,q4,s9,ho⟩
 simp only [Qa2,Y,q4,Qb]
 refine Zb (s9.live x1) (show _=some (.int .i64 c.cores) from rfl) ?_
 refine Qcv (Jg (λae=> ?_) (λae=> ?_))
 ·have V: ∀(t':Env),t' 1=ptr n 0→t' 3=w→t' 4= .int .i64 (j:Nat)→t' 5= .int .i64 1→lfp (Qan AC K I) t' g9 n9:=by
   intro t' Y q3 q4 q5
   refine XA (m:=5) (Inv:=λm t E J=> ∃(k:Nat) (w:Value),m+k=5∧t 1=ptr n 0∧t 3=w∧t 4= .int .i64 (j:Nat)∧t 5= .int .i64 ((k+1:Nat):Int)∧Sub g1 E∧OwnS Zan 3 g1 E w (((List.range j).map λi=>QcC i 5).flatten++QcC j k)) ?_
    ⟨0,w,by omega,Y,q3,q4,q5,s9,by rw [show QcC j 0=[] from rfl,List.append_nil];exact ho⟩
   rintro I2 m2 t2 E J U ⟨k,w2,ab,r1,r3,r4,r5,Z,O⟩
   simp only [Qan,r3,r4,r5]
   refine Jhk (Jg (λhk=> ?_) (λhk=> ?_))
   ·refine ⟨rfl,by decide,rfl,Nat.le_of_ble_eq_true rfl,?_⟩
    rw [Xi]
    refine ⟨rfl,by decide,?_⟩
    rw [Xi]
    change Zl (Zan ⟨((k+1:Nat):Int),(j:Nat),0⟩) .exact E J _
    intro Q
    have s2:=(Sub.refl E).new Q (some (.cells (Zan ⟨((k+1:Nat):Int),(j:Nat),0⟩) .exact))
    have x2:upd E J (some (.cells (Zan ⟨((k+1:Nat):Int),(j:Nat),0⟩) .exact)) J=some (.cells (Zan ⟨((k+1:Nat):Int),(j:Nat),0⟩) .exact):=Xa _ _ _
    have ad:(((List.range j).map λi=>QcC i 5).flatten++QcC j k).length≤100:=by rw [List.length_append,Jc8,ZeS];omega
    refine (O.mono s2).append (Z.trans s2) (Sl.one (ZaY _) x2) JdE (by decide) (by rw [List.length_singleton];omega) (by rw [List.length_singleton];omega) (λv' g4 n4 k1 k2 _ _=> ?_)
    rw [Jf,JL (by omega)]
    refine U (m2-1) _ _ _ (by omega) ⟨k+1,v',by omega,r1,rfl,r4,rfl,k1,?_⟩
    have e:QcC j (k+1)=QcC j k++[⟨((k+1:Nat):Int),(j:Nat),0⟩]:=by unfold QcC;rw [List.range_succ,List.map_append];rfl
    rw [e,←List.append_assoc];exact k2
   ·simp only [Qa1]
    have aa:k=5:=by omega
    subst aa
    show Jb .int .add (t2 4) (.int .i64 1) _
    rw [r4,Jf,JL (by omega)]
    refine ih (m-1) _ _ _ (by omega) ⟨j+1,w2,by omega,r1,r3,rfl,Z,?_⟩
    rw [List.range_succ,List.map_append,List.flatten_append]
    simpa using O
  exact V _ Y q3 q4 rfl
 ·have hj:j=c.cores.toNat:=by omega
  subst hj
  have tail: ∀(t':Env),t' 1=ptr n 0→t' 3=w→Jap AC K t' g9 n9:=by
   intro t' Y q3
   simp only [Jap]
   refine XA (m:=c.lines.toNat) (Inv:=λm t E J=> ∃(k:Nat) (w:Value),m+k=c.lines.toNat∧t 1=ptr n 0∧t 3=w∧t 6= .int .i64 (k:Nat)∧Sub g1 E∧OwnS Zan 3 g1 E w (((List.range c.cores.toNat).map λi=>QcC i 5).flatten++((List.range k).map QdD).flatten)) ?_
    ⟨0,w,by omega,Y,q3,rfl,s9,by simpa using ho⟩
   rintro I2 m2 t2 E J U ⟨k,w2,ab,r1,r3,r6,Z,O⟩
   simp only [JaY,r1,r3,r6,Qb]
   refine Zb (Z.live x1) (show _=some (.int .i64 c.lines) from rfl) ?_
   refine Qcv (Jg (λhk=> ?_) (λhk=> ?_))
   ·refine ⟨rfl,by decide,rfl,Nat.le_of_ble_eq_true rfl,?_⟩
    rw [Xi]
    refine ⟨rfl,by decide,rfl,Nat.le_of_ble_eq_true rfl,?_⟩
    rw [Xi]
    refine ⟨rfl,Nat.le_of_ble_eq_true rfl,rfl,Nat.le_of_ble_eq_true rfl,?_⟩
    rw [Xi]
    change Zl (((QdD k).map Zan).flatten) .exact E J _
    intro Q
    have s2:=(Sub.refl E).new Q (some (.cells (((QdD k).map Zan).flatten) .exact))
    have x2:upd E J (some (.cells (((QdD k).map Zan).flatten) .exact)) J=some (.cells (((QdD k).map Zan).flatten) .exact):=Xa _ _ _
    have ad:(((List.range c.cores.toNat).map λi=>QcC i 5).flatten++((List.range k).map QdD).flatten).length≤200:=by rw [List.length_append,Jc8,Xd0];omega
    have af:OwnS Zan 3 E (upd E J (some (.cells (((QdD k).map Zan).flatten) .exact))) (.slice (some ⟨J,0,none⟩) 2 2) (QdD k):=Own.lit x2 Q rfl (by show 2<LC;decide)
    have ac:=af.sl
    refine (O.mono s2).append (Z.trans s2) ac JdE (by decide) (by show (_+2)*_≤_;omega) (by show _+2<_;omega) (λv' g4 n4 k1 k2 _ _=> ?_)
    rw [Jf,JL (by omega)]
    refine U (m2-1) _ _ _ (by omega) ⟨k+1,v',by omega,r1,rfl,rfl,k1,?_⟩
    rw [List.range_succ,List.map_append,List.flatten_append,←List.append_assoc]
    simpa using k2
   ·have hj:k=c.lines.toNat:=by omega
    subst hj
    exact Ja (Sub.refl _) (hK _ _ _ (s1.trans Z) (O.base s1))
  exact tail _ Y q3
theorem Xij {m c:Nat} {K:Value→Prop}:Jb .slice .eql (.slice none m c) (.slice none 0 0) K=K (.bool true):=rfl
theorem Zik {a:Addr} {m c:Nat} {K:Value→Prop}:Jb .slice .eql (.slice (some a) m c) (.slice none 0 0) K=K (.bool false):=rfl
theorem JeZ {v:Value} {us:List Int} (J:Sl XcO 1 g v us) (hl:us.length≤4096) (I: ∀j g' n',Sub g g'→OwnS XcO 1 g g' j us→K j g' n'):AC JP [v] g n K:=by
 refine ACalls.fold Xb ?_
 rw [←Xa4]
 simp only [Xau]
 obtain ⟨a,c,rfl,Z,Y,V⟩:=id J
 rcases Y with rfl|⟨l,o,rfl⟩
 ·have Q:us=[]:=List.eq_nil_of_length_eq_zero (by
   rcases Nat.eq_zero_or_pos us.length with h|h
   ·exact h
   ·obtain ⟨_,_,_,_,e,_⟩:=V h
    cases e)
  subst Q
  rw [Xij]
  refine Ze rfl ?_
  exact Ja (Sub.refl _) (I _ _ _ (Sub.refl _) OwnS.nil)
 ·rw [Zik]
  refine Jc rfl ?_
  rw [Xi]
  intro U
  have E:=(Sub.refl g).new U (some (.cells (reps 0 [.int .u64 0]) .exact))
  refine (OwnS.empty (g0:=g) (enc:=XcO) (z:=1)).append E (J.mono E) QcN (by decide) (by simp;omega) (by simp;omega) (λj g4 n4 k1 O _ _=> ?_)
  rw [List.nil_append] at O
  exact Ja (Sub.refl _) (I _ _ _ k1 O)
end
end
section
variable {g:G} {n:Nat}
section
variable {K:Cont}
def WsC (g:G) (c:List Value) (x:List Int):Prop:= ∃v,c=[v]∧Sl XcO 1 g v x
theorem WsC.mono {g g':G} (s:Sub g g') (c:List Value) (x:List Int) (h:WsC g c x):WsC g' c x:=by
 obtain ⟨v,e,h⟩:=h
 exact ⟨v,e,h.mono s⟩
theorem Xes {α:Type} {enc:α→List Value} {z:Nat} {v:Value} {xs:List α} {g0 g':G} (h:OwnS enc z g0 g v xs) (k: ∀l b,g0 l=none→g l=some b→g' l=some b):Sl enc z g' v xs:=by
 rcases h with ⟨a,b,w,rfl,I⟩|⟨lc,c,bk,rfl,J,j,E,hc⟩
 ·have hx:xs=[]:=List.eq_nil_of_length_eq_zero a
  subst hx
  refine ⟨w,0,rfl,by simp,I,λh=>absurd h (by simp)⟩
 ·have:OwnS enc z g0 g' (.slice (some ⟨lc,0,none⟩) xs.length c) xs:= .inr ⟨lc,c,bk,rfl,k _ _ j J,j,E,hc⟩
  exact this.sl
def JhX (ps:List (List Int)) (rc:List Int) (al:List Act):Prop:=ps.length≤20∧(∀p∈ps,p.length≤1000)∧rc.length≤1000∧al.length≤1500
theorem Zfe {v vr va:Value} {J:List (List Int)} {rc:List Int} {al:List Act} (hv:SlR WsC 1 g v J) (hr:Sl XcO 1 g vr rc) (ha:Sl Zan 3 g va al) (ab:J.length<4611686018427387904)
  (hK: ∀b n',(b=true→JhX J rc al)→K (.bool b) g n'):AC Zav [v,vr,va] g n K:=by
 refine ACalls.fold Xb ?_
 rw [←Xcs]
 simp only [QbF]
 have O: ∀n',Zc K (.bool false) g n':=λn'=>Ja (Sub.refl _) (hK _ _ λh=>nomatch h)
 refine XA (m:=J.length) (Inv:=λm t Z n2=> ∃j:Nat,m+j=J.length∧Z=g∧t 0=v∧t 1=vr∧t 2=va∧t 7= .int .i64 (j:Nat)∧ ∀x∈J.take j,x.length≤1000) ?_ ⟨0,by omega,rfl,rfl,rfl,rfl,rfl,by simp⟩
 rintro I m t Z n2 ih ⟨j,hm,rfl,Q,V,U,t7,E⟩
 simp only [Xa6,Q,t7]
 refine hv.len ?_
 refine Qcv (Jg (λhj=> ?_) (λhj=> ?_))
 ·have Y:j<J.length:=by omega
  obtain ⟨p,hp⟩: ∃p,J[j]? =some p:=⟨_,List.getElem?_eq_getElem Y⟩
  refine hv.idx hp (λl o c aa hc hR=> ?_)
  obtain ⟨vo,rfl,ho⟩:=hR
  rw [Qb]
  refine aa.ld (i:=0) rfl ?_
  refine ho.len (Qf9 (Jg (λh=> ?_) (λh=> ?_)))
  ·exact O _
  ·rw [Jf,Qg (by omega) (by omega),show ((j:Nat):Int)+1=((j+1:Nat):Int) by omega]
   refine ih (m-1) _ _ _ (by omega) ⟨j+1,by omega,rfl,Q,V,U,rfl,λx hx=> ?_⟩
   rw [take_add hp] at hx
   rcases List.mem_append.1 hx with hx|hx
   ·exact E x hx
   ·rcases List.mem_singleton.1 hx with rfl;omega
 ·rw [List.take_of_length_le (by omega)] at E
  have tail: ∀(t':Env),t' 0=v→t' 1=vr→t' 2=va→Qaw AC K t' Z n2:=by
   intro t' Q V U
   simp only [Qaw,Q,V,U]
   refine hv.len (Jhk (Jg (λh1=> ?_) (λh1=>O _)))
   refine hr.len (Jhk (Jg (λh2=> ?_) (λh2=>O _)))
   refine ha.len (Jhk ?_)
   exact Ja (Sub.refl _) (hK _ _ λh3=>⟨by omega,E,by omega,by have:=of_decide_eq_true h3;omega⟩)
  exact tail _ Q V U
theorem Zh7 {v:Value} (hc:Abs.isCell v=true) (K:List Value→Prop) (k:K [v]):Qf (reps 1 [(.slice none 0 0)]) [(0,none,v)] K:=⟨hc,by simp [reps],k⟩
set_option maxHeartbeats 1000000 in
theorem Qe7 {v:Value} {E:List (List Int)} (hv:SlR WsC 1 g v E) (h1:E.length≤20) (h2: ∀p∈E,p.length≤1000) (hK: ∀V g' n',Sub g g'→SlR WsC 1 g' V E→K V g' n'):AC Xv [v] g n K:=by
 refine ACalls.fold Xb ?_
 rw [←Xb3]
 simp only [Jbe]
 refine XA (m:=E.length) (Inv:=λm t U n2=> ∃(j:Nat) (w:Value),m+j=E.length∧t 0=v∧t 3=w∧t 4= .int .i64 (j:Nat)∧BB WsC 1 g U w (E.take j)) ?_ ⟨0,.slice none 0 0,by omega,rfl,rfl,rfl,BB.nil g⟩
 rintro I m t U n2 ih ⟨j,w,hm,t0,t3,t4,J⟩
 have Q:=hv.mono (λc x h=>WsC.mono J.sub' c x h) J.sub'
 simp only [QaS,t0,t3,t4]
 refine Q.len (Qcv (Jg (λhj=> ?_) (λhj=> ?_)))
 ·have Z:j<E.length:=by omega
  obtain ⟨p,hp⟩: ∃p,E[j]? =some p:=⟨_,List.getElem?_eq_getElem Z⟩
  have ad:=h2 p (List.mem_of_getElem? hp)
  rw [Xi]
  intro hn
  have O:=(Sub.refl U).new hn (some (.cells (reps 0 [.int .u64 0]) .exact))
  generalize upd U n2 (some (.cells (reps 0 [.int .u64 0]) .exact))=g3 at O
  have ac:=Q.mono (λc x h=>WsC.mono O c x h) O
  refine ac.idx hp (λl o c ab hc hR=> ?_)
  obtain ⟨vo,rfl,ho⟩:=hR
  rw [Qb]
  refine ab.ld (i:=0) rfl ?_
  refine (OwnS.empty (g0:=g3) (enc:=XcO) (z:=1)).append (Sub.refl _) ho QcN (by decide) (by simp;omega) (by simp;omega) (λv4 g4 n4 s4 o4 _ _=> ?_)
  rw [List.nil_append] at o4
  have hv4c:isCell v4=true:=JbC o4
  refine Zh7 hv4c _ (λaa=> ?_)
  refine J.app (x:=p) (O.trans s4) rfl (by simp [hv4c]) (λgH hD=>⟨v4,rfl,?_⟩) aa (by decide) (by rw [List.length_take];omega) (λV g' n' Y=> ?_)
  ·exact Xes o4 (λl b hl hb=>hD l b hb (O.none hl))
  rw [Jf,JL (by omega)]
  exact ih (m-1) _ _ _ (by omega) ⟨j+1,V,by omega,t0,rfl,rfl,by rw [take_add hp];exact Y⟩
 ·rw [List.take_of_length_le (by omega)] at J
  exact Ja (Sub.refl _) (hK _ _ _ J.sub' (J.done _ (Dif.refl _ _)))
end
end
section
variable {g:G} {n:Nat}
section
variable {o:Col Cl} {ls lm lk:Nat} {vr:Value} {W:QaI} {ws:List CW} {M:Mc} {K:Cont} {k:Nat}
def Zhe (w:CW):List Value:=[ptr w.lc 0]
theorem XgR (w:CW):(Zhe w).length=1:=rfl
theorem ZgO (w:CW): ∀v∈Zhe w,isCell v=true:=by intro v j;rcases List.mem_singleton.1 j with rfl;rfl
theorem ZgB (ws:List CW):(ws.map Zhe).flatten=ws.map λw=>ptr w.lc 0:=by
 induction ws with
 | nil=>rfl
 | cons w ws j=>simp only [List.map_cons,List.flatten_cons,j];rfl
def QhX (c:Cfg) (ps:List (List Int)) (i:Nat):Cr:=Xa3 (i:Nat) c.store (ps.getD i [])
structure NewI (gB:G) (o:Col Cl) (ls lm:Nat) (vr:Value) (W:QaI) (S:Sys) (c:Cfg) (ps:List (List Int)) (g9:G) (vk:Value) (ws:List CW):Prop where
 sys:SysH o g9 ls W S
 obj:g9 lm=some (.cells [ptr ls 0,vk,vr,.int .i64 0] .exact)
 own:OwnS Zhe 1 (upd gB lm none) g9 vk ws
 nb:X4 vk≠some lm
 co: ∀(i:Nat) w,ws[i]? =some w→CoH o g9 w (QhX c ps i)
 dis: ∀(i j:Nat) w w',i≠j→ws[i]? =some w→ws[j]? =some w'→ ∀l,w.mem l→ ¬w'.mem l
 fr: ∀w∈ws,∀l,w.mem l→gB l=none∧X4 vk≠some l
 keep: ∀l b,l≠lm→gB l=some b→g9 l=some b
 z:ws=[]→vk= .slice none 0 0
theorem NewI.sub {j:G} {S:Sys} {c:Cfg} {I:List (List Int)} {g9:G} {E:Value} (h:NewI j o ls lm vr W S c I g9 E ws):Sub (upd j lm none) g9:=JcR λl b e=>by
 by_cases hl:l=lm
 ·subst hl;rw [Xa] at e;cases e
 ·rw [Zd _ _ hl] at e;exact h.keep l b hl e
theorem NewI.vkB {O:G} {S:Sys} {c:Cfg} {Q:List (List Int)} {I:G} {J:Value} (h:NewI O o ls lm vr W S c Q I J ws) {l:Nat} (e:X4 J=some l):O l=none∧ ∃b,I l=some b:=by
 rcases h.own with ⟨a,_⟩|⟨lc,Y,bk,rfl,U,E,j,V⟩
 ·rw [h.z (List.eq_nil_of_length_eq_zero a)] at e;cases e
 ·obtain rfl:lc=l:=by simpa [X4] using e
  refine ⟨?_,_,U⟩
  by_cases j:lc=lm
  ·exact absurd (by rw [j];rfl) h.nb
  ·rw [Zd _ _ j] at E;exact E
theorem NewI.memL {U:G} {S:Sys} {c:Cfg} {O:List (List Int)} {j:G} {Q:Value} (h:NewI U o ls lm vr W S c O j Q ws) {w:CW} (I:w∈ws) {l:Nat} (hm:w.mem l): ∃b,j l=some b:=by
 obtain ⟨i,E⟩:=List.getElem?_of_mem I
 have hc:=h.co i w E
 rcases hm with rfl|rfl|rfl
 ·exact ⟨_,hc.hc⟩
 ·obtain ⟨ds,_,hp⟩:=hc.hp;exact ⟨_,hp⟩
 ·obtain ⟨L,f,J⟩:=hc.hb;exact ⟨_,J.hb⟩
set_option maxHeartbeats 1000000 in
theorem NewI.step {gB:G} {S:Sys} {c:Cfg} {ps:List (List Int)} {g9 U:G} {n1:Nat} {vk:Value} (h:NewI gB o ls lm vr W S c ps g9 vk ws) (al: ∃b,gB lm=some b) (ai:o lm=none) (an:Live o gB) (aq:ws.length≤8) {w:CW} (s:Sub g9 U) (Z: ∀l,w.mem l→g9 l=none) (hc:CoH o U w (QhX c ps ws.length))
  {P:Nat→Value→G→Nat→Prop} (hK: ∀l v' g4 n4,NewI gB o ls lm vr W S c ps g4 v' (ws++[w])→P l v' g4 n4):
  Zl [ptr w.lc 0] .exact U n1 λaa g6 ap=>Zs vk (.slice (some ⟨aa,0,none⟩) 1 1) 1 8 g6 ap λad g7 n63=>kSt g7 lm (0+1) ad λg8=>P aa ad g8 n63:=by
 intro hn
 have s2:=(Sub.refl U).new hn (some (.cells (Zhe w) .exact))
 have x2:upd U n1 (some (.cells (Zhe w) .exact)) n1=some (.cells (Zhe w) .exact):=Xa _ _ _
 change Zs _ _ _ _ (upd U n1 (some (.cells (Zhe w) .exact))) _ _
 generalize upd U n1 (some (.cells (Zhe w) .exact))=g2 at s2 x2
 have E:=s.trans s2
 refine (h.own.mono E).append (h.sub.trans E) (Sl.one (XgR _) x2) ZgO (by decide) (by rw [List.length_singleton];omega) (by rw [List.length_singleton];omega) (λv' g3 n3 k1 k2 k3 k4=> ?_)
 have ae:g2 lm=some (.cells [ptr ls 0,vk,vr,.int .i64 0] .exact):=E.live h.obj
 have ah:=k3 lm _ ae h.nb
 have ao:isCell v'=true:=JbC k2
 refine Qz ah rfl (show 0+1<4 from Nat.le_of_ble_eq_true rfl) ao ?_
 have af:X4 v'≠some lm:=λe=>by have:=k4 (show 0<1 from Nat.one_pos) lm e;rw [ae] at this;cases this
 have nw: ∀{l:Nat} {b:Blk},g9 l=some b→ ¬w.mem l:=λ{l b} Q hm=>by rw [Z l hm] at Q;cases Q
 have O: ∀{l:Nat} {b:Blk},g2 l=some b→l≠lm→X4 vk≠some l→upd g3 lm (some (.cells ([ptr ls 0,vk,vr,.int .i64 0].set 1 v') .exact)) l=some b:=λ{l b} Q I hb=>by
  rw [Zd _ _ I];exact k3 l b Q hb
 have ab: ∀{l:Nat},X4 vk=some l→gB l=none:=λ{l} e=>(h.vkB e).1
 have ac: ∀{l:Nat} {t:Cl},o l=some t→l≠lm∧X4 vk≠some l:=λ{l t} Y=>by
  refine ⟨λe=> ?_,λe=> ?_⟩
  ·rw [e,ai] at Y;cases Y
  ·obtain ⟨b,hb⟩:=an l t Y
   rw [ab e] at hb;cases hb
 have k0: ∀{l:Nat},X4 v'=some l→g2 l=none:=λ{l} e=>k4 (show 0<1 from Nat.one_pos) l e
 refine hK _ _ _ _ ⟨?_,?_,?_,af,?_,?_,?_,?_,λe=>by simp at e⟩
 ·refine (h.sys.mono E).same λl t e=> ?_
  obtain ⟨b,hb⟩:=(h.sys.mono E).live l t e
  obtain ⟨c1,c2⟩:=ac e
  rw [hb];exact O hb c1 c2
 ·rw [Xa];rfl
 ·exact k2.keep λl b Q hb=>by rw [Zd _ _ (λe=>af (by rw [←e];exact hb))];exact Q
 ·intro i w1 hi
  by_cases e:i<ws.length
  ·rw [List.getElem?_append_left e] at hi
   refine (h.co i w1 hi).keep λl b hm Y hg=>⟨Y,?_⟩
   obtain ⟨f1,f2⟩:=h.fr w1 (List.mem_of_getElem? hi) l hm
   exact O (E.live hg) (λe=>by obtain ⟨b,hb⟩:=al;rw [e,hb] at f1;cases f1) f2
  ·have Q:=(List.getElem?_eq_some_iff.1 hi).1
   rw [List.length_append,List.length_singleton] at Q
   have ak:i=ws.length:=by omega
   subst ak
   rw [List.getElem?_append_right (Nat.le_refl _),Nat.sub_self] at hi
   obtain rfl:w=w1:=by simpa using hi
   refine hc.keep λl b hm Y hg=>⟨Y,?_⟩
   refine O (s2.live hg) (λe=>by have:=Z l hm;rw [e,h.obj] at this;cases this) (λe=> ?_)
   obtain ⟨b',am⟩:=(h.vkB e).2
   exact nw am hm
 ·intro i j w1 w2 aj h1 V l m1 m2
  by_cases e1:i<ws.length
  ·rw [List.getElem?_append_left e1] at h1
   by_cases e2:j<ws.length
   ·rw [List.getElem?_append_left e2] at V
    exact h.dis i j w1 w2 aj h1 V l m1 m2
   ·rw [List.getElem?_append_right (by omega)] at V
    obtain rfl:w=w2:=by rcases List.mem_singleton.1 (List.mem_of_getElem? V) with e;exact e.symm
    obtain ⟨b,hb⟩:=h.memL (List.mem_of_getElem? h1) m1
    exact nw hb m2
  ·rw [List.getElem?_append_right (by omega)] at h1
   obtain rfl:w=w1:=by rcases List.mem_singleton.1 (List.mem_of_getElem? h1) with e;exact e.symm
   by_cases e2:j<ws.length
   ·rw [List.getElem?_append_left e2] at V
    obtain ⟨b,hb⟩:=h.memL (List.mem_of_getElem? V) m2
    exact nw hb m1
   ·have l1:=(List.getElem?_eq_some_iff.1 h1).1
    rw [List.getElem?_append_right (by omega)] at V
    have l2:=(List.getElem?_eq_some_iff.1 V).1
    rw [List.length_singleton] at l1 l2
    omega
 ·intro w1 J l hm
  rcases List.mem_append.1 J with J|J
  ·refine ⟨(h.fr w1 J l hm).1,λe=> ?_⟩
   obtain ⟨b,hb⟩:=h.memL J hm
   have:=k0 e
   rw [E.live hb] at this;cases this
  ·rcases List.mem_singleton.1 J with rfl
   refine ⟨?_,λe=> ?_⟩
   ·cases hb:gB l with
    | none=>rfl
    | some b=>
     have I:l≠lm:=λe=>by have:=Z l hm;rw [e,h.obj] at this;cases this
     exact absurd hm (nw (h.keep l b I hb))
   ·have h0:=k0 e
    have: ∃b,U l=some b:=by
     rcases hm with rfl|rfl|rfl
     ·exact ⟨_,hc.hc⟩
     ·obtain ⟨ds,_,hp⟩:=hc.hp;exact ⟨_,hp⟩
     ·obtain ⟨L,f,hr⟩:=hc.hb;exact ⟨_,hr.hb⟩
    obtain ⟨b,hb⟩:=this
    rw [s2.live hb] at h0;cases h0
 ·intro l b I hb
  refine O (E.live (h.keep l b I hb)) I (λe=> ?_)
  rw [ab e] at hb;cases hb
theorem Jfz {c:Cfg} {img:List Ln} {E:List (List Int)} {rc:List Int} {i:Nat} {C:Cr} (h:(JfX c img E rc).cs[i]? =some C):i<E.length∧C=QhX c E i:=by
 have h:((List.range E.length).map (λi=>Xa3 (i:Nat) c.store (E.getD i [])))[i]? =some C:=h
 rw [List.getElem?_map] at h
 obtain ⟨j,J,rfl⟩:=Option.map_eq_some_iff.1 h
 obtain ⟨I,e⟩:=List.getElem?_eq_some_iff.1 J
 rw [List.length_range] at I
 rw [List.getElem_range] at e
 subst e
 exact ⟨I,rfl⟩
set_option maxHeartbeats 2000000 in
theorem Jex {c:Cfg} (hg:Jdj c=true) {vi vp vq:Value} {img:List Ln} {J:List (List Int)} {rc:List Int} (hi:Sl Zq 8 g vi img) (ax:img=[]∨(img.length:Int)=c.lines) (hp:SlR WsC 1 g vp J) (ay:(J.length:Int)=c.cores)
  (aw: ∀p∈J,p.length≤4096) (hr:Sl XcO 1 g vq rc) (ao:rc.length≤4096)
  (hK: ∀ls lm lk vr o' g' n' W ws,Sub g (unm ws lm lk o' g')→MH o' g' ls lm lk vr W ws (JfX c img J rc)→K (.tuple #[ptr lm 0,.int .i64 0]) g' n'):AC JV [.agg (Ju c).toArray,vi,vp,vq] g n K:=by
 have hc:=Xfd hg
 have aG:=hc.cores
 refine ACalls.fold Xb ?_
 rw [←ZdY]
 simp only [ZdG,Xe]
 intro hn
 have s1:=(Sub.refl g).new hn (some (.cells (Ju c) .exact))
 have x1:upd g n (some (.cells (Ju c) .exact)) n=some (.cells (Ju c) .exact):=Xa _ _ _
 generalize upd g n (some (.cells (Ju c) .exact))=g1 at s1 x1
 refine Jt x1 (by simp [Ju]) ?_
 rw [show ((Ju c).drop 0).take 7=Ju c from rfl]
 refine Jgd c (hi.mono s1) (λhb=>absurd ⟨hg,ax⟩ hb) (λ_ _ ls o g2 n2 W u2 h2=> ?_)
 have s2:Sub g1 g2:=u2.trans (JZ o g2)
 refine Jar rfl (Jar rfl (Zbq (Jc rfl ?_)))
 refine hp.len ?_
 refine Zb (s2.live x1) (show _=some (.int .i64 c.cores) from rfl) ?_
 refine Zbq (Jg (λh=>absurd ay h) (λ_=> ?_))
 have aD:=s1.trans s2
 refine JeZ (hr.mono aD) ao (λvr g3 n3 s3 ae=> ?_)
 refine ⟨rfl,by decide,JbC ae,Nat.le_of_ble_eq_true rfl,?_⟩
 rw [Xi]
 change Zl [ptr ls 0,.slice none 0 0,vr,.int .i64 0] .exact g3 n3 _
 intro O
 have s4:=(Sub.refl g3).new O (some (.cells [ptr ls 0,.slice none 0 0,vr,.int .i64 0] .exact))
 have x4:upd g3 n3 (some (.cells [ptr ls 0,.slice none 0 0,vr,.int .i64 0] .exact)) n3=some (.cells [ptr ls 0,.slice none 0 0,vr,.int .i64 0] .exact):=Xa _ _ _
 generalize upd g3 n3 (some (.cells [ptr ls 0,.slice none 0 0,vr,.int .i64 0] .exact))=gB at s4 x4
 have Y:=s3.trans s4
 have h4:=h2.mono Y
 have ad:o n3=none:=h2.live.fresh (s3.none O)
 have ah: ∀l b,g l=some b→l≠n3∧o l=none∧gB l=some b:=λl b e=>by
  obtain ⟨q1,U⟩:=Jh7 (u2.live (s1.live e))
  refine ⟨λe'=> ?_,q1,Y.live U⟩
  rw [e',s3.none O] at U;cases U
 have I0:NewI gB o ls n3 vr W (JbV c img) c J gB (.slice none 0 0) []:=⟨h4,x4,OwnS.nil,by simp [X4],λi w h=>by simp at h,λi j w w' _ h=>by simp at h,λw h=>by simp at h,λ_ _ _ h=>h,λ_=>rfl⟩
 refine hp.len ?_
 refine XA (m:=J.length) (Inv:=λm t g9 n9=> ∃(ws:List CW) (vk:Value),m+ws.length=J.length∧NewI gB o ls n3 vr W (JbV c img) c J g9 vk ws∧t 3=vq∧t 4=ptr n 0∧t 12=ptr n3 0∧t 38=vp∧t 39= .int .i64 (J.length:Nat)∧t 40= .int .i64 (ws.length:Nat)) ?_
  ⟨[],.slice none 0 0,by simp,I0,rfl,rfl,rfl,rfl,rfl,rfl⟩
 rintro I m t g9 n9 ih ⟨ws,vk,hm,E,t3,t4,Q,an,ap,av⟩
 have V: ∀l b,g l=some b→o l=none∧g9 l=some b:=λl b e=>by
  obtain ⟨q1,U,q3⟩:=ah l b e
  exact ⟨U,E.keep l b q1 q3⟩
 have sg:Sub g g9:=JcR λl b e=>(V l b e).2
 have su:Sub g (unc o g9):=JcR λl b e=>by rw [Zp (V l b e).1];exact (V l b e).2
 have x9:g9 n=some (.cells (Ju c) .exact):=E.keep n _ (λe=>by have:=s2.live x1;rw [e,s3.none O] at this;cases this) (Y.live (s2.live x1))
 simp only [Jcu,an,ap,av,t4,Q]
 refine Qcv (Jg (λhj=> ?_) (λhj=> ?_))
 ·have ar:ws.length<J.length:=by omega
  obtain ⟨p,Z⟩: ∃p,J[ws.length]? =some p:=⟨_,List.getElem?_eq_getElem ar⟩
  refine (hp.mono (λc x h=>WsC.mono su c x h) su).idx Z (λl oo cc aE aF hR=> ?_)
  obtain ⟨vo,rfl,ho⟩:=hR
  simp only [Qb]
  refine (aE.mono (JZ _ _)).ld (i:=0) rfl ?_
  refine Zb x9 (show _=some (.int .i64 c.store) from rfl) ?_
  refine QdE (o:=o) ho E.sys.live (by omega) hc.store (aw p (List.mem_of_getElem? Z)) (λw g5 n5 s5 af ac=> ?_)
  refine Jar rfl (Jar rfl (Zbq (Jc rfl ?_)))
  simp only [Qd,Qb]
  refine Zb (s5.live E.obj) (show _=some vk from rfl) ?_
  refine ⟨rfl,by decide,?_⟩
  rw [Xi]
  have ab:CoH o g5 w (QhX c J ws.length):=by unfold QhX;rw [List.getD,Z];exact ac
  refine E.step ⟨_,x4⟩ ad h4.live (by omega) s5 af ab (λl v' g6 n6 h6=> ?_)
  rw [Jf,JL (by omega)]
  exact ih (m-1) _ _ _ (by omega) ⟨ws++[w],v',by rw [List.length_append,List.length_singleton];omega,h6,t3,t4,Q,an,ap,by rw [List.length_append,List.length_singleton];rfl⟩
 ·have aa:ws.length=J.length:=by omega
  have aB:ws≠[]:=λe=>by rw [e] at aa;simp only [List.length_nil] at aa;omega
  rcases E.own with ⟨a,_⟩|⟨lk,cc,bk,rfl,aA,h0,hl,aC⟩
  ·exact absurd (List.eq_nil_of_length_eq_zero a) aB
  have ak:lk≠n3:=λe=>E.nb (by rw [e];rfl)
  have am:gB lk=none:=by rw [Zd _ _ ak] at h0;exact h0
  have au:o lk=none:=h4.live.fresh am
  have az:bk.rw=true:=by rcases aC with ⟨_,rfl,_⟩|⟨_,rfl⟩<;>rfl
  have aj: ∀{l:Nat} {b:Blk},gB l=some b→ ∀w∈ws,¬w.mem l:=λ{l b} hb w hw hm=>by rw [(E.fr w hw l hm).1] at hb;cases hb
  have ai: ∀l b,l≠n3→o l=none→gB l=some b→unm ws n3 lk o g9 l=some b:=λl b h1 h2 h3=>by
   rw [ZcP (aj h3) h1 (λe=>by rw [e,am] at h3;cases h3) h2]
   exact E.keep l b h1 h3
  have aq:MH o g9 ls n3 lk vr W ws (JfX c img J rc):=by
   refine ⟨E.sys,?_,λi w C hi hC=> ?_,E.dis,ad,au,λw hw=>⟨aj x4 w hw,λhm=>(E.fr w hw lk hm).2 rfl⟩,λe=>ak e.symm,⟨cc,E.obj⟩,⟨bk,az,by rw [←ZgB];exact aA⟩,?_⟩
   ·show ws.length=((List.range J.length).map _).length
    rw [List.length_map,List.length_range];exact aa
   ·obtain ⟨_,rfl⟩:=Jfz hC
    exact E.co i w hi
   ·refine Xes ae λl b hl hb=> ?_
    exact ai l b (λe=>by rw [e,O] at hb;cases hb) (h2.live.fresh hl) (s4.live hb)
  have al:Sub g (unm ws n3 lk o g9):=JcR λl b e=>by
   obtain ⟨q1,U,q3⟩:=ah l b e
   exact ai l b q1 U q3
  have tail: ∀(t':Env),t' 3=vq→t' 4=ptr n 0→t' 12=ptr n3 0→Qbs AC K t' g9 n9:=by
   intro t' t3 t4 Q
   simp only [Qbs,t3,t4,Q,Qb]
   refine Zb x9 (show _=some (.int .i64 c.store) from rfl) ?_
   refine QdE (o:=o) (hr.mono su) E.sys.live (by decide) hc.store ao (λw g5 n5 s5 af ac=> ?_)
   refine Jar rfl (Jar rfl (Zbq (Jc rfl ?_)))
   exact Ja (Sub.refl _) (hK _ _ _ _ _ _ _ _ _ (al.trans (aq.subm s5)) (aq.mono s5))
  exact tail _ t3 t4 Q
end
end
section
variable {g:G} {n:Nat}
section
variable {o:Col Cl} {ls lm lk:Nat} {vr:Value} {W:QaI} {ws:List CW} {M:Mc} {K:Cont} {k:Nat}
def wkI15:List Ins:=[⟨1,1,0,0,5⟩,⟨9,1,0,0,192⟩,⟨12,0,0,0,192⟩,⟨15,0,0,0,0⟩,⟨21,1,0,0,0⟩,⟨22,0,0,0,0⟩]
def wkH15:List Ins:=[⟨22,0,0,0,0⟩]
def wkM0:Mc:=JfX plainC [] [codeF wkI15,codeF wkH15] (codeF wkH15)
theorem MH.own {α:Type} {enc:α→List Value} {z:Nat} {g':G} {v:Value} {xs:List α} (h:MH o g ls lm lk vr W ws M) (O:OwnS enc z g g' v xs):Sl enc z (unm ws lm lk o g') v xs:=Xes O λl b j hb=>by
 obtain ⟨c,hc⟩:=h.obj
 obtain ⟨bk,J,E⟩:=h.cores
 rw [ZcP (λw I hm=> ?_) (λe=> ?_) (λe=> ?_) (h.sys.live.fresh j)]
 ·exact hb
 ·obtain ⟨_,b,hb⟩:=h.memL w I l hm
  rw [j] at hb;cases hb
 ·rw [e,hc] at j;cases j
 ·rw [e,E] at j;cases j
theorem Qii {K:Value→Prop}:Jb .ptr .eql (.pointer none) (.pointer none) K=K (.bool true):=rfl
def JhN (e:Evt):Bool:=decide (e.kind=8)&&decide (e.val=5)
def JdA:Nat→Mc→Bool→Mc×Bool
 | 0,M,t=>(M,t)
 | k+1,M,t=>if M.quiet=true then (M,t) else JdA k (Za2 M (Qaz plainC)).1 (t||(Za2 M (Qaz plainC)).2.any JhN)
def wkEnd:Mc:=(JdA 40 wkM0 false).1
theorem ZhL:(JdA 40 wkM0 false).2=true:=by kernel_rfl
theorem Jhf:wkEnd.quiet=true:=by kernel_rfl
theorem JhT:(over wkEnd.S.q wkEnd.S.D.mem).length=6:=by kernel_rfl
theorem ZhT:((over wkEnd.S.q wkEnd.S.D.mem).map λl=>l.1.getD 0 0)[3]? =some 5:=by kernel_rfl
theorem Zig:wkEnd.cs.length=2:=by kernel_rfl
theorem Zhg:wkEnd.fails=0:=by kernel_rfl
theorem QfE {c:Cfg} (hc:c.good) {img:List Ln} {j:List (List Int)} {rc:List Int} (J:img=[]∨(img.length:Int)=c.lines) (Q: ∀l∈img,l.nn) (U:(j.length:Int)=c.cores) (hp: ∀p∈j,p.length≤4096∧ ∀u∈p,0≤u∧u<18446744073709551616)
  (V:rc.length≤4096) (I: ∀u∈rc,0≤u∧u<18446744073709551616):(JfX c img j rc).ok 0:=by
 have Y:=hc.cores
 refine ⟨XeE hc J 0,QfU c Q,λi C h=> ?_,?_,V,I,by show (0:Int)≤0∧(0:Int)≤0;omega⟩
 ·obtain ⟨O,rfl⟩:=Jfz h
  have E:=hp (j.getD i []) (by rw [List.getD,List.getElem?_eq_getElem O];exact List.getElem_mem O)
  exact ⟨Xdq hc.store E.1 E.2,Jdp _ _ _,rfl,rfl⟩
 ·show ((List.range j.length).map _).length=c.cores.toNat
  rw [List.length_map,List.length_range];omega
theorem JeF: ∀(j:List Act) (M:Mc),(Za2 M j).2.length≤2*j.length
 | [],M=>Nat.zero_le _
 | a::j,M=>by
  have E:=Zhi M a
  have I:=JeF j (M.do a).1
  show ((M.do a).2++(Za2 (M.do a).1 j).2).length≤2*(j.length+1)
  rw [List.length_append];omega
theorem Xhr:wkM0.ok 0:=QfE QdM (.inl rfl) (λl h=>by cases h) rfl (λp hp=>by
  rcases List.mem_cons.1 hp with rfl|hp
  ·exact ⟨by decide,Xei (by decide)⟩
  ·rcases List.mem_singleton.1 hp with rfl;exact ⟨by decide,Xei (by decide)⟩) (by decide) (Xei (by decide))
theorem JhJ {a b:Value} {x y:List Int} {l:Nat} (J:g l=some (.cells [a,b] .exact)) (I:Sl XcO 1 g a x) (hb:Sl XcO 1 g b y):SlR WsC 1 g (.slice (some ⟨l,0,none⟩) 2 2) [x,y]:=by
 refine ⟨[[a],[b]],Rd.lit J rfl,rfl,λi c z j E=> ?_⟩
 match i,j,E with
 | 0,j,E=>simp at j E;subst j;subst E;exact ⟨rfl,a,rfl,I⟩
 | 1,j,E=>simp at j E;subst j;subst E;exact ⟨rfl,b,rfl,hb⟩
theorem QhM {k:Nat} {M:Mc} {b:Bool} (h:JdA k M b=JdA 40 wkM0 false) (hq:k=0∨M.quiet=true):M=wkEnd∧b=true:=by
 have e:JdA k M b=(M,b):=by
  cases k with
  | zero=>rfl
  | succ k=>unfold JdA;rw [if_pos (hq.resolve_left (by omega))]
 rw [e] at h
 exact ⟨congrArg Prod.fst h,(congrArg Prod.snd h).trans ZhL⟩
set_option maxHeartbeats 1000000 in
set_option maxRecDepth 100000 in
theorem Jif (h:MH o g ls lm lk vr W ws M) (ho:M.ok k) (hk:k<100000) (I:M=wkEnd) {t:Env} (t4:t 4=ptr lm 0) (t6:t 6= .bool true) {F:G} (hF:Sub F g) (hK: ∀g' n',Sub F g'→K (.bool true) g' n') (hS:Sub F (unm ws lm lk o g)):XM AC K t g n:=by
 simp only [XM,t4,t6]
 refine Zcj h (λn1=> ?_)
 refine Zcf h.sys ho.wf.shp ho.wf.inr (λv2 g2 n2 s2 o2=> ?_)
 refine Ze rfl ?_
 have h2:=h.mono s2
 have U:=h.own o2
 refine Zbb h2 ho hk (λg3 n3 W3 Y s3=>Ze (by rw [I];exact Jhf) ?_)
 have O:=(hS.trans (h.subm s2)).trans s3
 have q3:=U.mono s3
 have E:(over M.S.q M.S.D.mem).length=6:=by rw [I];exact JhT
 refine q3.len ?_
 rw [E,Jq]
 refine Ze rfl ?_
 have hv:=ZhT
 rw [←I,List.getElem?_map] at hv
 obtain ⟨l3,Q,e3⟩:=Option.map_eq_some_iff.1 hv
 refine q3.idx (j:=3) Je Q (λl oo Z=> ?_)
 refine Jeu (by decide) (by decide) ?_
 rw [Qb]
 have J:(Zq l3)[0]? =some (.int .u64 5):=by
  have h8:=l3.2
  have:l3.1.getD 0 0=5:=e3
  unfold Zq
  rw [List.getElem?_map]
  cases hq:l3.1 with
  | nil=>rw [hq] at h8;cases h8
  | cons a r=>rw [hq] at this;rw [show a=5 from this];rfl
 refine (Z.mono Zbo).ld (i:=0) J ?_
 refine XaB (Ze rfl ?_)
 have V:M.cs.length=2:=by rw [I];exact Zig
 refine ZbG Y 0 (λaa=>absurd ⟨Int.le_refl 0,by omega⟩ aa) (λw C hw hC _ n4=> ?_)
 rw [Xck]
 refine Ze rfl ?_
 refine ZbG Y 2 (λ_ n5=> ?_) (λw C hw hC _ n5=> ?_)
 ·rw [Qii]
  refine Ze rfl ?_
  refine Xe0 Y (λn6=> ?_)
  rw [I,Zhg]
  refine XaB ?_
  exact Ja (Sub.refl _) (hK _ _ (O.trans Zbo))
 ·have:=(List.getElem?_eq_some_iff.1 hC).1
  rw [V] at this
  exact absurd this (by decide)
set_option maxHeartbeats 2000000 in
set_option maxRecDepth 100000 in
theorem Qch (hK: ∀g' n',Sub g g'→K (.bool true) g' n'):AC Zn [] g n K:=by
 refine ACalls.fold Xb ?_
 rw [←Qci]
 simp only [Qbm]
 refine JfW (λg1 n1 s1=> ?_)
 change Zl (Ju ⟨0,0,0,0,0,0,0⟩) .exact g1 n1 _
 intro ac
 have s2:=s1.trans ((Sub.refl g1).new ac (some (.cells (Ju plainC) .exact)))
 simp only [Xe]
 refine ⟨rfl,Xt (cs:=Ju ⟨0,0,0,0,0,0,0⟩) (Xa _ _ _) rfl (by simp [Ju]) (by decide) ?_⟩
 rw [show splice (Ju ⟨0,0,0,0,0,0,0⟩) 0 (Ju plainC)=Ju plainC from rfl]
 have s3:=s1.trans (((Sub.refl g1).new ac (some (.cells (Ju ⟨0,0,0,0,0,0,0⟩) .exact))).upd_fresh (some (.cells (Ju plainC) .exact)) ac)
 have x3:upd (upd g1 n1 (some (.cells (Ju ⟨0,0,0,0,0,0,0⟩) .exact))) n1 (some (.cells (Ju plainC) .exact)) n1=some (.cells (Ju plainC) .exact):=Xa _ _ _
 generalize upd (upd g1 n1 (some (.cells (Ju ⟨0,0,0,0,0,0,0⟩) .exact))) n1 (some (.cells (Ju plainC) .exact))=g3 at s3 x3
 refine QhQ (QhQ ⟨rfl,by decide,rfl,Nat.le_of_ble_eq_true rfl,?_⟩)
 rw [Xi]
 refine fI0 (Xip (fI0 ?_))
 change Qf (reps wkI15.length (encI QB)) (ZbL 0 wkI15) _
 refine Qhm ?_
 intro aq
 have s4:=(Sub.refl g3).new aq (some (.cells ((wkI15.map encI).flatten) .exact))
 have aa:Sl encI 5 (upd g3 (n1+1) (some (.cells ((wkI15.map encI).flatten) .exact))) (.slice (some ⟨n1+1,0,none⟩) 6 6) wkI15:=Rd.lit (Xa _ _ _) rfl
 generalize upd g3 (n1+1) (some (.cells ((wkI15.map encI).flatten) .exact))=g4 at s4 aa
 refine JeL aa (by decide) (by decide) (λv5 g5 n5 s5 o5=> ?_)
 refine fI0 ?_
 change Qf (reps wkH15.length (encI QB)) (ZbL 0 wkH15) _
 refine Qhm ?_
 intro az
 have s6:=(Sub.refl g5).new az (some (.cells ((wkH15.map encI).flatten) .exact))
 have ab:Sl encI 5 (upd g5 n5 (some (.cells ((wkH15.map encI).flatten) .exact))) (.slice (some ⟨n5,0,none⟩) 1 1) wkH15:=Rd.lit (Xa _ _ _) rfl
 generalize upd g5 n5 (some (.cells ((wkH15.map encI).flatten) .exact))=g6 at s6 ab
 refine JeL ab (by decide) (by decide) (λv7 g7 n7 s7 o7=> ?_)
 have ad:=((s4.trans s5).trans s6).trans s7
 have x7:=ad.live x3
 refine Jt x7 (by simp [Ju]) ?_
 rw [show ((Ju plainC).drop 0).take 7=Ju plainC from rfl]
 refine ⟨JbC o5,by decide,JbC o7,Nat.le_of_ble_eq_true rfl,?_⟩
 rw [Xi]
 change Zl [v5,v7] .exact g7 n7 _
 intro aw
 have s8:=(Sub.refl g7).new aw (some (.cells [v5,v7] .exact))
 have x8:upd g7 n7 (some (.cells [v5,v7] .exact)) n7=some (.cells [v5,v7] .exact):=Xa _ _ _
 generalize upd g7 n7 (some (.cells [v5,v7] .exact))=g8 at s8 x8
 have w5:=(o5.sl.mono (s6.trans s7)).mono s8
 have w7:=o7.sl.mono s8
 refine Jex (c:=plainC) (by kernel_rfl) (img:=[]) Sl.nil (.inl rfl) (JhJ x8 w5 w7) rfl (by intro p hp;rcases List.mem_cons.1 hp with rfl|hp;decide;rcases List.mem_singleton.1 hp with rfl;decide) w7 (by decide) (λls lm lk vr o9 g9 n9 W9 aj u9 h9=> ?_)
 refine Jar rfl (Jar rfl (Zbq (Jc rfl (QaE (Jc rfl ?_)))))
 change MH o9 g9 ls lm lk vr W9 aj wkM0 at h9
 have x9:=u9.live (s8.live x7)
 have aG:Sub g (unm aj lm lk o9 g9):=(((s3.trans ad).trans s8).trans u9)
 have aE:=h9.sys
 refine XA (m:=40) (Inv:=λm t gg nn=> ∃(i:Nat) (b:Bool) (o:Col Cl) (W:QaI) (ws:List CW) (M:Mc),m+i=40∧JdA (40-i) M b=JdA 40 wkM0 false∧MH o gg ls lm lk vr W ws M∧M.ok (66*i)∧Sub g8 (unm ws lm lk o gg)∧t 1=ptr n1 0∧t 4=ptr lm 0∧t 6= .bool b∧t 7= .int .i64 (i:Nat)) ?_
  ⟨0,false,_,_,_,_,rfl,rfl,h9,Xhr,u9,rfl,rfl,rfl,rfl⟩
 rintro I m t gg nn ih ⟨i,b,o,W,ws,M,hm,Z,h,ho,hS,Y,J,O,V⟩
 have ax:Sub g g8:=(s3.trans ad).trans s8
 simp only [Ja0,V,J,Y]
 have al: ∀(t':Env) {g':G} {n':Nat} {W':QaI},MH o g' ls lm lk vr W' ws M→Sub (unm ws lm lk o gg) (unm ws lm lk o g')→t' 4=ptr lm 0→t' 6= .bool b→(40-i=0∨M.quiet=true)→XM AC K t' g' n':=by
  intro t' g' n' W' h' s' J O hq
  obtain ⟨eM,eb⟩:=QhM Z hq
  subst eb
  have ak:=(ax.trans hS).trans s'
  exact Jif h' ho (by omega) eM J O (ak.trans Zbo) hK ak
 refine Qcv (Jg (λhi=> ?_) (λhi=> ?_))
 ·have aA:i<40:=by omega
  refine Zbb h ho (by omega) (λaF aD W1 h1 u1=>XaC ?_)
  refine Xo (λhq=> ?_) (λhq=> ?_)
  ·have hq:M.quiet=false:=by simpa using hq
   have an:=hS.trans u1
   have ar:=(an.trans Zbo).live (s8.live x7)
   rw [Qb]
   refine Jt ar (by simp [Ju]) ?_
   rw [show ((Ju plainC).drop 0).take 7=Ju plainC from rfl]
   refine Qd3 QdM (λv2 g2 n2 s2 o2=> ?_)
   have h2:=h1.mono s2
   have ao:=an.trans (h1.subm s2)
   have ap:Sl Zan 3 (unm ws lm lk o g2) v2 (Qaz plainC):=h1.own o2
   have E:(Qaz plainC).length=22:=by kernel_rfl
   refine ZeG h2 ho ap o2.cap (by rw [E];omega) (λv3 o3 g3 n3 W3 ay h3 u3 e3=> ?_)
   have av:=ao.trans u3
   have am:(Za2 M (Qaz plainC)).1.ok (66*(i+1)):=by
    have:=Xej (Qaz plainC) ho (by rw [E];omega)
    rw [E] at this
    exact this.le (by omega)
   have aB:(Za2 M (Qaz plainC)).2.length≤1000:=Nat.le_trans (JeF _ M) (by rw [E];decide)
   have ae:JdA (40-(i+1)) (Za2 M (Qaz plainC)).1 (b||(Za2 M (Qaz plainC)).2.any JhN)=JdA 40 wkM0 false:=by
    rw [←Z,show 40-i=(40-(i+1))+1 by omega]
    show _=if M.quiet=true then _ else _
    rw [if_neg (by rw [hq];decide)]
   have ah: ∀(t':Env),t' 1=ptr n1 0→t' 4=ptr lm 0→t' 6= .bool b→t' 7= .int .i64 (i:Nat)→t' 8=v3→t' 9= .int .i64 0→lfp (Jaq AC K I) t' g3 n3:=by
    intro t' Y J O V t8 t9
    refine XA (m:=(Za2 M (Qaz plainC)).2.length) (Inv:=λm t gg nn=> ∃(j:Nat),m+j=(Za2 M (Qaz plainC)).2.length∧gg=g3∧t 1=ptr n1 0∧t 4=ptr lm 0∧t 6= .bool (b||((Za2 M (Qaz plainC)).2.take j).any JhN)∧t 7= .int .i64 (i:Nat)∧t 8=v3∧t 9= .int .i64 (j:Nat)) ?_
     ⟨0,rfl,rfl,Y,J,by rw [List.take_zero,List.any_nil,Bool.or_false];exact O,V,t8,t9⟩
    rintro I2 m2 t2 gg nn af ⟨j,aC,rfl,Y,J,O,V,t8,t9⟩
    simp only [Jaq,t8,t9,O]
    refine e3.len (Qcv (Jg (λhj=> ?_) (λhj=> ?_)))
    ·have au:j<(Za2 M (Qaz plainC)).2.length:=by omega
     obtain ⟨ev,U⟩: ∃ev,(Za2 M (Qaz plainC)).2[j]? =some ev:=⟨_,List.getElem?_eq_getElem au⟩
     have Q:(b||((Za2 M (Qaz plainC)).2.take (j+1)).any JhN)=((b||((Za2 M (Qaz plainC)).2.take j).any JhN)||JhN ev):=by
      rw [take_add U,List.any_append,Bool.or_assoc];simp
     rw [Jf,JL (by omega)]
     refine Xo (λh6=> ?_) (λh6=> ?_)
     ·refine af (m2-1) _ _ _ (by omega) ⟨j+1,by omega,rfl,Y,J,?_,V,t8,rfl⟩
      rw [Q,h6];rfl
     ·refine e3.idx JaC U (λl oo ai=> ?_)
      rw [Qb]
      refine (ai.mono Zbo).ld (i:=0) rfl ?_
      refine XaB (Jg (λh8=> ?_) (λh8=> ?_))
      ·refine e3.idx JaC U (λl oo ai=> ?_)
       rw [Qb]
       refine (ai.mono Zbo).ld (i:=4) rfl ?_
       refine XaB ?_
       rw [Jf,JL (by omega)]
       refine af (m2-1) _ _ _ (by omega) ⟨j+1,by omega,rfl,Y,J,?_,V,t8,rfl⟩
       rw [Q,h6,Bool.false_or]
       show Value.bool (decide (ev.val=5))= .bool (decide (ev.kind=8)&&decide (ev.val=5))
       rw [decide_eq_true h8,Bool.true_and]
      ·rw [Jf,JL (by omega)]
       refine af (m2-1) _ _ _ (by omega) ⟨j+1,by omega,rfl,Y,J,?_,V,t8,rfl⟩
       rw [Q,h6,Bool.false_or]
       show Value.bool false= .bool (decide (ev.kind=8)&&decide (ev.val=5))
       rw [decide_eq_false h8,Bool.false_and]
    ·rw [List.take_of_length_le (by omega)] at O
     simp only [JaZ]
     show Jb .int .add (t2 7) (.int .i64 1) _
     rw [V,Jf,JL (by omega)]
     exact ih (m-1) _ _ _ (by omega) ⟨i+1,_,o3,W3,ay,_,by omega,ae,h3,am,av,Y,J,O,rfl⟩
   exact ah _ Y J O V rfl rfl
  ·have hq:M.quiet=true:=by simpa using hq
   exact al _ h1 u1 J O (.inr hq)
 ·exact al _ h (Sub.refl _) J O (.inl (by omega))
end
end
section
variable {g:G} {n:Nat}
section
variable {o:Col Cl} {ls lm lk:Nat} {vr:Value} {W:QaI} {ws:List CW} {M:Mc} {K:Cont} {k:Nat}
theorem Xe4 {v w:Value} {xs:List Ln} (J:Sl Zq 8 g v xs) (U:Sl Zq 8 g w xs) (hl:xs.length<1000000) (hK: ∀n',K (.bool true) g n'):AC Jaw [v,w] g n K:=by
 refine ACalls.fold Xb ?_
 rw [←Xco]
 simp only [QbB]
 refine J.len (U.len (Zbq (Jg (λh=>absurd rfl h) (λ_=> ?_))))
 refine XA (m:=xs.length) (Inv:=λm t Q n2=> ∃j:Nat,m+j=xs.length∧Q=g∧t 0=v∧t 1=w∧t 5= .int .i64 (j:Nat)) ?_ ⟨0,rfl,rfl,rfl,rfl,rfl⟩
 rintro I m t Q n2 Z ⟨j,hm,rfl,O,V,Y⟩
 simp only [Xa5,O,V,Y]
 refine J.len (Qcv (Jg (λhj=> ?_) (λ_=>Ja (Sub.refl _) (hK _))))
 obtain ⟨x,hx⟩: ∃x,xs[j]? =some x:=⟨_,List.getElem?_eq_getElem (by omega)⟩
 refine J.idx Je hx (λl o E=> ?_)
 rw [Qb]
 refine E.ldN (by rw [Je]) ?_
 refine U.idx Je hx (λl o E=> ?_)
 rw [Qb]
 refine E.ldN (by rw [Je]) (neL x x _ (Jg (λh=>absurd rfl h) (λ_=> ?_)))
 rw [Jf,JL (by omega)]
 exact Z (m-1) _ _ _ (by omega) ⟨j+1,by omega,rfl,O,V,rfl⟩
theorem Zih (h:MH o g ls lm lk vr W ws M) (j:M.ok k) {t:Env} {v:Value} (E:t 5=ptr lm 0) (V:t 8=v) (Q:Sl Zq 8 (unm ws lm lk o g) v (over M.S.q M.S.D.mem)) (I:(over M.S.q M.S.D.mem).length<1000000) (O: ∀g' n',K (.bool true) g' n'):QT AC K t g n:=by
 simp only [QT,E,V]
 refine Zcj h (λn1=> ?_)
 refine Zcf h.sys j.wf.shp j.wf.inr (λZ Y n2 U J=> ?_)
 refine Xe4 J.sl ((Q.mono Zbo).mono U) I (λn3=>Ze rfl ?_)
 exact Qch λg' n' s=>Ja (Sub.refl _) (O _ _)
set_option maxHeartbeats 2000000 in
set_option maxRecDepth 100000 in
theorem Xie {va:Value} {al:List Act} (h:MH o g ls lm lk vr W ws M) (Q:M.ok k) (hk:k+3<100000) {t:Env} (U:t 1=va) (O:t 5=ptr lm 0) (Z:Sl Zan 3 (unm ws lm lk o g) va al) (ah:al.length≤1500) (hl:(over M.S.q M.S.D.mem).length<1000000) (hK: ∀g' n',K (.bool true) g' n'):Qw AC K t g n:=by
 simp only [Qw,O]
 refine Zbb h Q (by omega) (λg1 n1 W1 h1 s1=>XaC ?_)
 refine Xo (λhq=> ?_) (λhq=> ?_)
 ·exact Qch λg' n' s=>Ja (Sub.refl _) (hK _ _)
 have hq:M.quiet=true:=by simpa using hq
 refine Zcj h1 (λn1=> ?_)
 refine Zcf h1.sys Q.wf.shp Q.wf.inr (λv2 g2 n2 s2 o2=> ?_)
 have af:=h1.own o2
 have h2:=h1.mono s2
 have ad:=(Z.mono s1).mono (h1.subm s2)
 have main: ∀(t':Env),t' 1=va→t' 5=ptr lm 0→t' 8=v2→t' 9= .int .i64 0→lfp (ZU AC K) t' g2 n2:=by
  intro t' U O t8 Y
  refine XA (m:=al.length) (Inv:=λm t gg nn=> ∃(j:Nat) (o:Col Cl) (W:QaI) (ws:List CW),m+j=al.length∧MH o gg ls lm lk vr W ws M∧Sl Zan 3 (unm ws lm lk o gg) va al∧Sl Zq 8 (unm ws lm lk o gg) v2 (over M.S.q M.S.D.mem)∧t 1=va∧t 5=ptr lm 0∧t 8=v2∧t 9= .int .i64 (j:Nat)) ?_
   ⟨0,_,_,_,rfl,h2,ad,af,U,O,t8,Y⟩
  rintro I m t gg nn ih ⟨j,o,W,ws,hm,hh,Z,hv,U,O,t8,Y⟩
  simp only [ZU,U,O,Y]
  refine Z.len (Qcv (Jg (λhj=> ?_) (λ_=> ?_)))
  ·obtain ⟨a,V⟩: ∃a,al[j]? =some a:=⟨_,List.getElem?_eq_getElem (by omega)⟩
   have J: ∀(t':Env) {g':G} {n':Nat} {o':Col Cl} {W':QaI} {ab:List CW},MH o' g' ls lm lk vr W' ab M→Sub (unm ws lm lk o gg) (unm ab lm lk o' g')→t' 1=va→t' 5=ptr lm 0→t' 8=v2→t' 9= .int .i64 (j:Nat)→Zw AC K I t' g' n':=by
    intro t' g' n' o' W' ab h' s' U O t8 Y
    simp only [Zw]
    rw [Y,Jf,JL (by omega)]
    exact ih (m-1) _ _ _ (by omega) ⟨j+1,_,_,_,by omega,h',Z.mono s',hv.mono s',U,O,t8,rfl⟩
   refine Z.idx ZaY V (λl oo E=> ?_)
   simp only [Qb]
   refine (E.mono Zbo).ld (i:=0) rfl ?_
   refine QeA (Jg (λh7=> ?_) (λh7=> ?_))
   ·refine Z.idx ZaY V (λl oo E=> ?_)
    simp only [Qb]
    refine (E.mono Zbo).ld (i:=0) rfl ?_
    refine Jhk (Jg (λae=> ?_) (λae=> ?_))
    ·exact J _ hh (Sub.refl _) U O t8 Y
    ·have aa:=Mc.quiet_do hq Q (a:=a) (by omega)
     refine Z.idx ZaY V (λl oo E=> ?_)
     simp only [Qb]
     refine (E.mono Zbo).ldN (by rw [ZaY]) ?_
     refine Jeq hh Q hk a (λv3 o3 g3 n3 W3 ac h3 s3 e3=> ?_)
     rw [aa] at h3 e3
     refine e3.len (Zbq (Jc rfl ?_))
     refine Zbb h3 Q (by omega) (λg4 n4 W4 h4 s4=>XaC ?_)
     rw [hq]
     refine Jc rfl ?_
     exact J _ h4 (s3.trans s4) U O t8 Y
   ·have aa:=Mc.quiet_do hq Q (a:=a) (by omega)
    refine Z.idx ZaY V (λl oo E=> ?_)
    simp only [Qb]
    refine (E.mono Zbo).ldN (by rw [ZaY]) ?_
    refine Jeq hh Q hk a (λv3 o3 g3 n3 W3 ac h3 s3 e3=> ?_)
    rw [aa] at h3 e3
    refine e3.len (Zbq (Jc rfl ?_))
    refine Zbb h3 Q (by omega) (λg4 n4 W4 h4 s4=>XaC ?_)
    rw [hq]
    refine Jc rfl ?_
    exact J _ h4 (s3.trans s4) U O t8 Y
  ·exact Zih hh Q O t8 hv hl hK
 exact main _ U O rfl rfl
def Xbq (c:Cfg) (vi vp vq:Value):List Value:=Ju c++[vi,vp,vq]
set_option maxHeartbeats 4000000 in
set_option maxRecDepth 100000 in
theorem Ze0 (c:Cfg) {vi vp vq va:Value} {img:List Ln} {ps:List (List Int)} {rc:List Int} {al:List Act} (aA:Sl Zq 8 g vi img) (ae:SlR WsC 1 g vp ps) (an:Sl XcO 1 g vq rc) (az:Sl Zan 3 g va al) (aI:ps.length<4611686018427387904)
  (hi: ∀l∈img,l.nn) (aG: ∀p∈ps,∀u∈p,0≤u∧u<18446744073709551616) (aK: ∀u∈rc,0≤u∧u<18446744073709551616) (hK: ∀g' n',K (.bool true) g' n'):AC QU [.agg (Xbq c vi vp vq).toArray,va] g n K:=by
 refine ACalls.fold Xb ?_
 rw [←Jba]
 simp only [Jaz,Xe]
 have hw: ∀{g':G} {n':Nat},AC Zn [] g' n' λv g n=>Zc K v g n:=Qch λg' n' s=>Ja (Sub.refl _) (hK _ _)
 intro hn
 have s1:=(Sub.refl g).new hn (some (.cells (Xbq c vi vp vq) .exact))
 have x1:upd g n (some (.cells (Xbq c vi vp vq) .exact)) n=some (.cells (Xbq c vi vp vq) .exact):=Xa _ _ _
 generalize upd g n (some (.cells (Xbq c vi vp vq) .exact))=g1 at s1 x1
 have ak:=ae.mono (λc x h=>WsC.mono s1 c x h) s1
 refine Zb x1 (show _=some vp from rfl) ?_
 refine Zb x1 (show _=some vq from rfl) ?_
 refine Zfe ak (an.mono s1) (az.mono s1) aI (λb n2 hF=>XaC (Xo (λh=>hw) (λh=> ?_)))
 obtain ⟨f1,f2,f3,f4⟩:=hF (by simpa using h)
 refine Jt x1 (by simp [Xbq,Ju]) ?_
 rw [show ((Xbq c vi vp vq).drop (0+0)).take 7=Ju c from rfl]
 refine XfV c (λg4 n4 s4=>XaC (Xo (λh=>hw) (λh=> ?_)))
 have hg:Jdj c=true:=by simpa using h
 have hc:=Xfd hg
 have x4:=s4.live x1
 have am:=s1.trans s4
 refine Zb x4 (show _=some vp from rfl) ?_
 refine ae.len ?_
 refine Zb x4 (show _=some (.int .i64 c.cores) from rfl) ?_
 refine Zbq (Jg (λh=>hw) (λh2=> ?_))
 refine Zb x4 (show _=some vi from rfl) ?_
 refine aA.len ?_
 refine Zb x4 (show _=some (.int .i64 c.lines) from rfl) ?_
 refine Zbq (Jg (λh=>hw) (λh3=> ?_))
 refine Zb x4 (show _=some (.int .i64 c.lines) from rfl) ?_
 refine Qf9 (Jg (λh=>hw) (λh4=> ?_))
 have ar:(img.length:Int)=c.lines:=by omega
 have aq:(ps.length:Int)=c.cores:=by omega
 refine Jt x4 (by simp [Xbq,Ju]) ?_
 rw [show ((Xbq c vi vp vq).drop (0+0)).take 7=Ju c from rfl]
 refine Zb x4 (show _=some vi from rfl) ?_
 refine Zb x4 (show _=some vp from rfl) ?_
 refine Zb x4 (show _=some vq from rfl) ?_
 have tail: ∀{g9:G} {n9:Nat} {v6 v7 v9:Value} {E:Value→Value→Value→Value→Value→Env},(∀a b c d e,E a b c d e 1=va∧E a b c d e 2=ptr n 0∧E a b c d e 5=b∧E a b c d e 7= .int .i64 0)→Sub g g9→g9 n=some (.cells (Xbq c vi vp vq) .exact)→Sl Zq 8 g9 v6 img→SlR WsC 1 g9 v7 ps→Sl XcO 1 g9 v9 rc→
   AC JV [.agg (Ju c).toArray,v6,v7,v9] g9 n9 λad af aj=>Qc ad 0 λav=>Qc ad 1 λay=>Jb .int .neq ay (.int .i64 0) λaB=>Qa aB (Zc K (.bool false) af aj) (Jb .ptr .eql av (.pointer none) λaC=>Qa aC (Zc K (.bool false) af aj) (lfp (Jr AC K) (E ad av ay aB aC) af aj)):=by
  intro g9 n9 v6 v7 v9 E hE aL x9 a6 a7 a9
  have au:(JfX c img ps rc).ok 0:=QfE hc (.inr ar) hi aq (λp hp=>⟨Nat.le_trans (f2 p hp) (by decide),aG p hp⟩) (Nat.le_trans f3 (by decide)) aK
  refine Jex hg (img:=img) a6 (.inr ar) a7 aq (λp hp=>Nat.le_trans (f2 p hp) (by decide)) a9 (Nat.le_trans f3 (by decide)) (λls lm lk vr aQ aO aP aT aM aH aD=> ?_)
  refine Jar rfl (Jar rfl (Zbq (Jc rfl (QaE (Jc rfl ?_)))))
  have hR:=QfJ hc
  refine XA (m:=60) (Inv:=λm t gg nn=> ∃(i:Nat) (o:Col Cl) (W:QaI) (ws:List CW) (M:Mc),m+i=60∧MH o gg ls lm lk vr W ws M∧M.ok (504*i)∧Sub g9 (unm ws lm lk o gg)∧t 1=va∧t 2=ptr n 0∧t 5=ptr lm 0∧t 7= .int .i64 (i:Nat)) ?_
   ⟨0,_,_,_,_,rfl,aD,au,aH,(hE _ _ _ _ _).1,(hE _ _ _ _ _).2.1,(hE _ _ _ _ _).2.2.1,(hE _ _ _ _ _).2.2.2⟩
  rintro I m t gg nn ih ⟨i,o,W,ws,M,hm,h,ho,hS,t1,t2,t5,t7⟩
  simp only [Jr,t7,t5,t2]
  have ao:(over M.S.q M.S.D.mem).length<1000000:=by rw [Xek];have:=ho.wf.shp.h64;omega
  have ap: ∀(t':Env) {g':G} {n':Nat} {W':QaI},MH o g' ls lm lk vr W' ws M→Sub (unm ws lm lk o gg) (unm ws lm lk o g')→t' 1=va→t' 5=ptr lm 0→Qw AC K t' g' n':=by
   intro t' g' n' W' h' s' t1 t5
   exact Xie h' ho (by omega) t1 t5 ((az.mono aL).mono (hS.trans s')) f4 ao hK
  refine Qcv (Jg (λaN=> ?_) (λ_=>ap _ h (Sub.refl _) t1 t5))
  refine Zbb h ho (by omega) (λaR aU W1 h1 u1=>XaC ?_)
  refine Xo (λhq=> ?_) (λhq=>ap _ h1 u1 t1 t5)
  have ax:=hS.trans u1
  have aF:=(ax.trans Zbo).live x9
  rw [Qb]
  refine Jt aF (by simp [Xbq,Ju]) ?_
  rw [show ((Xbq c vi vp vq).drop (0+0)).take 7=Ju c from rfl]
  refine Qd3 hc (λv2 g2 n2 s2 o2=> ?_)
  have h2:=h1.mono s2
  have aE:=ax.trans (h1.subm s2)
  refine ZeG h2 ho (h1.own o2) o2.cap (by omega) (λv3 o3 g3 n3 W3 aS h3 u3 e3=> ?_)
  have aw:=(Xej (Qaz c) ho (by omega)).le (show 504*i+3*(Qaz c).length≤504*(i+1) by omega)
  rw [Jf,JL (by omega)]
  exact ih (m-1) _ _ _ (by omega) ⟨i+1,_,_,_,_,by omega,h3,aw,aE.trans u3,t1,t2,t5,rfl⟩
 have j: ∀{ga gb:G},Sub ga gb→ga n=some (.cells (Xbq c vi vp vq) .exact)→gb n=ga n:=λs x=>(s.live x).trans x.symm
 have ai: ∀{V:G} {n5 l5:Nat} {P:Value→G→Nat→Prop},Sub g V→(∀v g' n',Sub V g'→OwnS Zq 8 V g' v img→P v g' n')→Zs (.slice (some ⟨l5,0,none⟩) 0 0) vi 8 64 V n5 P:=by
  intro V n5 l5 P U hP
  refine (OwnS.empty (g0:=V) (enc:=Zq) (z:=8)).append (Sub.refl _) (aA.mono U) ZM (by decide) (by simp;omega) (by simp;omega) (λv6 g6 n6 Y o6 _ _=> ?_)
  rw [List.nil_append] at o6
  exact hP _ _ _ Y o6
 have ac: ∀{V:G} {n5 l5:Nat} {P:Value→G→Nat→Prop},Sub g V→(∀v g' n',Sub V g'→OwnS XcO 1 V g' v rc→P v g' n')→Zs (.slice (some ⟨l5,0,none⟩) 0 0) vq 1 8 V n5 P:=by
  intro V n5 l5 P U hP
  refine (OwnS.empty (g0:=V) (enc:=XcO) (z:=1)).append (Sub.refl _) (an.mono U) QcN (by decide) (by simp;omega) (by simp;omega) (λv6 g6 n6 Y o6 _ _=> ?_)
  rw [List.nil_append] at o6
  exact hP _ _ _ Y o6
 have cp: ∀{V:G} {n5:Nat} {P:Value→G→Nat→Prop},Sub g V→(∀v g' n',Sub V g'→SlR WsC 1 g' v ps→P v g' n')→AC Xv [vp] V n5 P:=λ{V n5 P} U hP=>Qe7 (ae.mono (λc x h=>WsC.mono U c x h) U) f1 f2 hP
 have nw: ∀{V:G} {n5:Nat} {cs:List Value} {P:Nat→G→Nat→Prop},(∀l g' n',Sub V g'→P l g' n')→Zl cs .exact V n5 P:=λ{V n5 cs P} hP hn=>hP _ _ _ ((Sub.refl V).new hn _)
 simp only [Xi,Qb]
 refine ⟨nw λaJ V n5 s5=> ?_,nw λah V n5 s5=> ?_⟩
 ·have x5:=s5.live x4
  have U:=am.trans s5
  refine ⟨j s5 x4,j s5 x4,j s5 x4,j s5 x4,ai U λv6 g6 n6 Y o6=> ?_,nw λah g6 n6 Y=> ?_⟩
  ·have x6:=Y.live x5
   have aa:=U.trans Y
   refine ⟨j Y x5,j Y x5,j Y x5,cp aa λv7 g7 n7 Q o7=> ?_,nw λah g7 n7 Q=> ?_⟩
   ·have x7:=Q.live x6
    refine ⟨j Q x6,j Q x6,nw λah g8 n8 J=> ?_⟩
    have x8:=J.live x7
    have Z:=(aa.trans Q).trans J
    refine ⟨j J x7,j J x7,j J x7,j J x7,ac Z λv9 g9 n9 O o9=> ?_⟩
    exact ⟨j O x8,tail (λ_ _ _ _ _=>⟨rfl,rfl,rfl,rfl⟩) (Z.trans O) (O.live x8) (o6.sl.mono ((Q.trans J).trans O)) (o7.mono (λc x h=>WsC.mono (J.trans O) c x h) (J.trans O)) o9.sl⟩
   ·have x7:=Q.live x6
    have ab:=aa.trans Q
    refine ⟨j Q x6,j Q x6,j Q x6,j Q x6,cp ab λv8 g8 n8 J o8=> ?_⟩
    have x8:=J.live x7
    have Z:=ab.trans J
    refine ⟨j J x7,j J x7,ac Z λv9 g9 n9 O o9=> ?_⟩
    exact ⟨j O x8,tail (λ_ _ _ _ _=>⟨rfl,rfl,rfl,rfl⟩) (Z.trans O) (O.live x8) (o6.sl.mono ((Q.trans J).trans O)) (o8.mono (λc x h=>WsC.mono O c x h) O) o9.sl⟩
  ·have x6:=Y.live x5
   have aa:=U.trans Y
   refine ⟨j Y x5,j Y x5,j Y x5,j Y x5,ai aa λv7 g7 n7 Q o7=> ?_⟩
   have x7:=Q.live x6
   have ab:=aa.trans Q
   refine ⟨j Q x6,j Q x6,j Q x6,cp ab λv8 g8 n8 J o8=> ?_⟩
   have x8:=J.live x7
   have Z:=ab.trans J
   refine ⟨j J x7,j J x7,ac Z λv9 g9 n9 O o9=> ?_⟩
   exact ⟨j O x8,tail (λ_ _ _ _ _=>⟨rfl,rfl,rfl,rfl⟩) (Z.trans O) (O.live x8) (o7.sl.mono (J.trans O)) (o8.mono (λc x h=>WsC.mono O c x h) O) o9.sl⟩
 ·have x5:=s5.live x4
  have U:=am.trans s5
  refine ⟨j s5 x4,j s5 x4,j s5 x4,j s5 x4,nw λaJ g6 n6 Y=> ?_⟩
  have x6:=Y.live x5
  have aa:=U.trans Y
  refine ⟨j Y x5,j Y x5,j Y x5,j Y x5,ai aa λv7 g7 n7 Q o7=> ?_⟩
  have x7:=Q.live x6
  have ab:=aa.trans Q
  refine ⟨j Q x6,j Q x6,j Q x6,cp ab λv8 g8 n8 J o8=> ?_⟩
  have x8:=J.live x7
  have Z:=ab.trans J
  refine ⟨j J x7,j J x7,ac Z λv9 g9 n9 O o9=> ?_⟩
  exact ⟨j O x8,tail (λ_ _ _ _ _=>⟨rfl,rfl,rfl,rfl⟩) (Z.trans O) (O.live x8) (o7.sl.mono (J.trans O)) (o8.mono (λc x h=>WsC.mono O c x h) O) o9.sl⟩
end
end
section
variable {g:G} {n:Nat}
theorem Qe6 {α:Type} {Q:α→Prop} {enc:α→List Value} {ks:List TK} {v:Value} (E: ∀c,RepL g ks c→ ∃x,c=enc x∧Q x) (h:QgP g (.s ks) v): ∃xs:List α,Sl enc ks.length g v xs∧(∀x∈xs,Q x)∧xs.length<4611686018427387904:=by
 obtain ⟨xs,hs,hb⟩:=Xhh (enc:=λx:{ x:α // Q x }=>enc x.1) (λc hc=>by obtain ⟨x,e,q⟩:=E c hc;exact ⟨⟨x,q⟩,e⟩) h
 obtain ⟨a,c,e,I,U,J⟩:=hs
 have j:=(hb _ _ _ e)
 have em:(xs.map (·.1)).map enc=xs.map λx:{ x:α // Q x }=>enc x.1:=by rw [List.map_map];rfl
 refine ⟨xs.map (·.1),⟨a,c,by rw [List.length_map];exact e,?_,U,?_⟩,?_,?_⟩
 ·rw [em,List.length_map];exact I
 ·rw [em,List.length_map];exact J
 ·intro x hx
  obtain ⟨y,_,rfl⟩:=List.mem_map.1 hx
  exact y.2
 ·rw [List.length_map]
  have O:=j.1
  have V:=j.2
  unfold LC at O;omega
theorem Zgj {α:Type} {R:G→List Value→α→Prop} {Q:α→Prop} {z:Nat} {v:Value} {xs:List α} (h:SlR (λg c x=>R g c x∧Q x) z g v xs):SlR R z g v xs∧ ∀x∈xs,Q x:=by
 obtain ⟨els,I,J,j⟩:=h
 refine ⟨⟨els,I,J,λi c x hc hx=>⟨(j i c x hc hx).1,(j i c x hc hx).2.1⟩⟩,λx hx=> ?_⟩
 obtain ⟨i,E⟩:=List.getElem?_of_mem hx
 have O:=(List.getElem?_eq_some_iff.1 E).1
 exact (j i _ x (List.getElem?_eq_getElem (by omega)) E).2.2
theorem Jg6 {x:Int} (h:(Lit.int .u64 x).wf=true):0≤x∧x<18446744073709551616:=by
 simp only [Lit.wf,Bool.and_eq_true,decide_eq_true_eq] at h
 have j:x≤18446744073709551615:=h.2
 exact ⟨h.1,by omega⟩
theorem QhY (c:List Value) (h:RepL g [.i .u64] c): ∃x,c=XcO x∧0≤x∧x<18446744073709551616:=by
 obtain ⟨j,r1,e1,E,h⟩:=JbK h
 have e:=Jc0 h
 subst e e1
 exact ⟨j,rfl,Jg6 E⟩
theorem Zij (c:List Value) (h:RepL g [.s [.i .u64]] c): ∃x,WsC g c x∧ ∀u∈x,0≤u∧u<18446744073709551616:=by
 obtain ⟨v,r,e,E,h⟩:=Jgo h
 have j:=Jc0 h
 subst j e
 obtain ⟨xs,hs,hq,_⟩:=Qe6 QhY E
 exact ⟨xs,⟨v,rfl,hs⟩,hq⟩
theorem Zif (c:List Value) (h:RepL g [.i .u64,.i .u64,.i .u64,.i .u64,.i .u64,.i .u64,.i .u64,.i .u64] c): ∃x:Ln,c=Zq x∧x.nn:=by
 obtain ⟨a1,r1,e1,J,h⟩:=JbK h
 obtain ⟨a2,r2,e2,I,h⟩:=JbK h
 obtain ⟨a3,r3,e3,U,h⟩:=JbK h
 obtain ⟨a4,r4,e4,V,h⟩:=JbK h
 obtain ⟨E,r5,e5,O,h⟩:=JbK h
 obtain ⟨a6,r6,Q,b6,h⟩:=JbK h
 obtain ⟨Y,r7,e7,b7,h⟩:=JbK h
 obtain ⟨Z,r8,e8,j,h⟩:=JbK h
 have e:=Jc0 h
 subst e e8 e7 Q e5 e4 e3 e2 e1
 refine ⟨⟨[a1,a2,a3,a4,E,a6,Y,Z],rfl⟩,rfl,λx hx=> ?_⟩
 simp only [List.mem_cons,List.not_mem_nil,or_false] at hx
 rcases hx with rfl|rfl|rfl|rfl|rfl|rfl|rfl|rfl
 ·exact (Jg6 J).1
 ·exact (Jg6 I).1
 ·exact (Jg6 U).1
 ·exact (Jg6 V).1
 ·exact (Jg6 O).1
 ·exact (Jg6 b6).1
 ·exact (Jg6 b7).1
 ·exact (Jg6 j).1
theorem Xid (c:List Value) (h:RepL g [.i .i64,.i .i64,.i .i64] c): ∃x,c=Zan x:=by
 obtain ⟨E,r1,e1,_,h⟩:=JbK h
 obtain ⟨j,r2,e2,_,h⟩:=JbK h
 obtain ⟨I,r3,e3,_,h⟩:=JbK h
 have e:=Jc0 h
 subst e e3 e2 e1
 exact ⟨⟨E,j,I⟩,rfl⟩
theorem Qhf {args:List Value} (j:Qe4 g [(true,[.i .i64,.i .i64,.i .i64,.i .i64,.i .i64,.i .i64,.i .i64,.s [.i .u64,.i .u64,.i .u64,.i .u64,.i .u64,.i .u64,.i .u64,.i .u64],.s [.s [.i .u64]],.s [.i .u64]]),(false,[.s [.i .i64,.i .i64,.i .i64]])] args):
  ∃c J O I va img E rc V,args=[.agg (Xbq c J O I).toArray,va]∧Sl Zq 8 g J img∧SlR WsC 1 g O E∧Sl XcO 1 g I rc∧Sl Zan 3 g va V∧E.length<4611686018427387904∧(∀l∈img,l.nn)∧(∀p∈E,∀u∈p,0≤u∧u<18446744073709551616)∧(∀u∈rc,0≤u∧u<18446744073709551616):=by
 cases j with
 | cons Q j=>
 cases j with
 | cons h3 j=>
 cases j
 obtain ⟨cs,e,Q⟩:=Q
 obtain ⟨a1,r1,e1,_,h⟩:=JbK Q
 obtain ⟨a2,r2,e2,_,h⟩:=JbK h
 obtain ⟨a3,r3,e3,_,h⟩:=JbK h
 obtain ⟨a4,r4,e4,_,h⟩:=JbK h
 obtain ⟨a5,r5,e5,_,h⟩:=JbK h
 obtain ⟨a6,r6,e6,_,h⟩:=JbK h
 obtain ⟨a7,r7,e7,_,h⟩:=JbK h
 obtain ⟨J,r8,e8,hi,h⟩:=Jgo h
 obtain ⟨O,r9,e9,hp,h⟩:=Jgo h
 obtain ⟨I,ab,aa,hq,h⟩:=Jgo h
 have Z:=Jc0 h
 subst Z aa e9 e8 e7 e6 e5 e4 e3 e2 e1
 obtain ⟨va,r3,e3,h3,Y⟩:=Jgo h3
 have U:=Jc0 Y
 subst U
 cases e3
 subst e
 obtain ⟨img,i1,i2,_⟩:=Qe6 Zif hi
 obtain ⟨E,p1,p2⟩:=XgI (R:=λg c x=>WsC g c x∧ ∀u∈x,0≤u∧u<18446744073709551616) Zij hp
 obtain ⟨p3,p4⟩:=Zgj p1
 obtain ⟨rc,q1,q2,_⟩:=Qe6 QhY hq
 obtain ⟨V,l1,_⟩:=Xhh Xid h3
 refine ⟨⟨a1,a2,a3,a4,a5,a6,a7⟩,J,O,I,_,img,E,rc,V,rfl,i1,p3,q1,l1,?_,i2,p4,q2⟩
 obtain ⟨els,⟨a,c,e,_⟩,_⟩:=p1
 obtain ⟨b1,b2⟩:=p2 _ _ _ e
 unfold LC at b1;omega
theorem Jdh {args:List Value} (J:Qe4 g [(true,[.i .i64,.i .i64,.i .i64,.i .i64,.i .i64,.i .i64,.i .i64,.s [.i .u64,.i .u64,.i .u64,.i .u64,.i .u64,.i .u64,.i .u64,.i .u64],.s [.s [.i .u64]],.s [.i .u64]]),(false,[.s [.i .i64,.i .i64,.i .i64]])] args) {K:Cont} (Q: ∀g' n',K (.bool true) g' n'):AC QU args g n K:=by
 obtain ⟨c,vi,vp,vq,va,img,ps,rc,al,rfl,j,Z,U,Y,E,I,V,O⟩:=Qhf J
 exact Ze0 c j Z U Y E I V O Q
end
end Go.Proofs.YtmchcjaomcdbmaaGreat.Gen
