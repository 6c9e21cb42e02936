import Derived.Test.YtmchcjaomcdbmaaGreatSpecMesiHandsC
/- What the functions come to. -/
set_option linter.all false
set_option linter.deprecated false
namespace Go.Proofs.YtmchcjaomcdbmaaGreat.Gen
open Go Go.Proofs.YtmchcjaomcdbmaaGreat.Abs Go.RowKit
section
variable {S:Sys} {q k l:Nat} {Vs:Nat→Ln} {U X Y:Nat→Prop}
theorem Sys.Qs.iff {U' X' Y':Nat→Prop} (h:S.Qs l U X Y) (hu: ∀i,U' i↔U i) (hx: ∀i,X' i↔X i) (hy: ∀i,Y' i↔Y i):S.Qs l U' X' Y':=⟨fun j N hN=>by
 obtain ⟨a,b,c⟩:=h.nd j N hN
 exact ⟨a.iff (hu j),b.iff (hx j),c.iff (hy j)⟩,h.oth⟩
theorem Sys.Qs.same {T:Sys} (h:S.Qs l U X Y) (hn:T.nodes=S.nodes) (hd:T.dir=S.dir):T.Qs l U X Y:=⟨fun j N hN=>h.nd j N (by rw [←hn];exact hN),fun l' E hE=>h.oth l' E (by rw [←hd];exact hE)⟩
theorem Zcv (line:Int): ∀(l:List Snd) (S:Sys),(S.sends line l).nodes.length=S.nodes.length
 | [],_=>rfl
 | x::l,S=>(Zcv line l (S.send1 line x)).trans (by unfold Sys.send1;split<;>simp [Sys.setN])
theorem ZaY {j:Nat} (h:j<S.nodes.length): ∃N,S.nodes[j]? =some N:=⟨_,List.getElem?_eq_getElem h⟩
theorem ZeH (h:S.P1 l X Y) (p:S.pr 1 k Vs) (hk:k<100000) {j:Nat} (hx:X j):
  (S.hear (j:Nat)).1.P1 l (fun i=>X i∧i≠j) (fun i=>Y i∨i=j)∧(S.hear (j:Nat)).1.pr 1 (k+1) Vs:=by
 obtain ⟨E,hE,hb,hnz,hX,hW⟩:=h.e
 obtain ⟨N,hN⟩:=ZaY (h.lt j (.inl hx))
 obtain ⟨a,b,c⟩:=h.qs.nd j N hN
 obtain ⟨m,hd,hm⟩:=b.one hx
 have ha:=c.nil (h.xy j hx)
 obtain ⟨⟨y,e1,e2,e3⟩,_,_⟩:=ZcO p hk hN hE hd ha hm (hX j (.inl hx))
 have e:(S.hear (j:Nat)).1=S.setN j { N with A:=(N.A.hear m).2.1,dn:=[],ans:=[y] }:=by
  unfold Sys.hear;rw [Sys.at_of hN];simp only;rw [hd];simp only;rw [e1,ha]
  show S.setN j { N with A:=(N.A.hear m).2.1,dn:=[],ans:=(XW [] y).1 }=_
  rw [Xaz e3 (by simp)];rfl
 have pp:=(ZeO p (by decide) hk (j:Nat)).1
 rw [e] at pp ⊢
 have q1:(S.setN j { N with A:=(N.A.hear m).2.1,dn:=[],ans:=[y] }).Qs l no (fun i=>X i∧i≠j) (fun i=>Y i∨i=j):=
  h.qs.setN hN ⟨a,.no (fun a=>a.2 rfl),.yes (.inr rfl) e2⟩ (fun i hi=>⟨Iff.rfl,⟨fun a=>a.1,fun a=>⟨a,hi⟩⟩,⟨fun a=>a.elim id (fun a=>absurd a hi),.inl⟩⟩)
 refine ⟨⟨q1,fun i x y=> ?_,fun i hi=> ?_,E,hE,hb,hnz,fun i hi=> ?_,fun i hi=> ?_⟩,q1.small pp⟩
 ·rcases y with y|y
  ·exact h.xy i x.1 y
  ·exact x.2 y
 ·show i<(S.nodes.set j _).length
  rw [List.length_set]
  rcases hi with hi|hi|hi
  ·exact h.lt i (.inl hi.1)
  ·exact h.lt i (.inr hi)
  ·rw [hi];exact h.lt j (.inl hx)
 ·rcases hi with hi|hi|hi
  ·exact hX i (.inl hi.1)
  ·exact hX i (.inr hi)
  ·rw [hi];exact hX j (.inl hx)
 ·obtain ⟨w,rfl,hw⟩:=hW i hi
  refine ⟨w,rfl,?_⟩
  by_cases e:w=j
  ·exact .inr (.inr e)
  ·exact hw.imp (fun a=>⟨a,e⟩) .inl
theorem Zc7 {i:Nat} (h:S.P3 l i) (p:S.pr 1 k Vs) (hk:k<100000):(S.hear (i:Nat)).1.calm∧(S.hear (i:Nat)).1.pr 1 (k+1) Vs:=by
 obtain ⟨N,hN⟩:=ZaY h.lt
 obtain ⟨a,b,c⟩:=h.qs.nd i N hN
 obtain ⟨m,hd,hm⟩:=b.one rfl
 have ha:=c.nil id
 have hml:0≤m.line∧m.line<S.c.lines:=(p.wf.nd i N hN).dn.2 m (by rw [hd];simp)
 have hdl:=p.wf.dir
 obtain ⟨E,hE⟩: ∃E,S.dir[l]? =some E:=⟨_,List.getElem?_eq_getElem (by omega)⟩
 have e1:=JeG p hk hN hE hd ha hm (h.bz E hE)
 have e:(S.hear (i:Nat)).1=S.setN i { N with A:=(N.A.hear m).2.1,dn:=[],ans:=[] }:=by
  unfold Sys.hear;rw [Sys.at_of hN];simp only;rw [hd];simp only;rw [e1,ha];rfl
 have pp:=(ZeO p (by decide) hk (i:Nat)).1
 rw [e] at pp ⊢
 have q1:(S.setN i { N with A:=(N.A.hear m).2.1,dn:=[],ans:=[] }).Qs l no no no:=
  h.qs.setN hN ⟨a,.no id,.no id⟩ (fun j hj=>⟨Iff.rfl,⟨fun a=>a.elim,fun a=>absurd a hj⟩,Iff.rfl⟩)
 exact ⟨q1.calm h.bz,q1.small pp⟩
theorem XdR (h:S.Qs l no no no) {E':Ent} (hE:l<S.dir.length) (hb:E'.busy=0) {w:Nat} (hw:w<S.nodes.length) {y:Ms} (hy:Jy (JI (l:Nat) y)=true):
  ((S.setE l E').sends (l:Nat) [⟨(w:Nat),y⟩]).P3 l w:=by
 obtain ⟨r1,r2,r3,r4⟩:=JL (l:Nat) [⟨(w:Nat),y⟩] (S.setE l E')
 have q3:=(h.setE E').sends (out:=[⟨(w:Nat),y⟩]) (Z:=(· =w)) (fun i hi=>⟨y,by subst hi;rw [Z9,if_pos rfl],hy⟩) (fun i hi=>by rw [Z9,if_neg (fun a=>hi (by omega))]) (fun _ _ h=>h)
 refine ⟨q3.iff (fun _=>Iff.rfl) (fun i=>⟨.inr,fun a=>a.elim (fun a=>a.elim) id⟩) (fun _=>Iff.rfl),fun E hE'=> ?_,?_⟩
 ·rw [r1] at hE'
  have:(S.dir.set l E')[l]? =some E:=hE'
  rw [List.getElem?_set_self hE] at this
  cases this;exact hb
 ·rw [Zcv];exact hw
theorem Jeu {E:Ent} (h:E.busy=1∨E.busy=2) (line:Int): ∃y,(Mov.goes ⟨E,line,[]⟩).out=[⟨E.who,y⟩]∧(Mov.goes ⟨E,line,[]⟩).e.busy=0:=by
 unfold Mov.goes
 by_cases b:E.busy=1
 ·rw [if_pos b];exact ⟨_,rfl,rfl⟩
 ·rw [if_neg b,if_pos (h.resolve_left b)];exact ⟨_,rfl,rfl⟩
theorem XcQ {E:Ent} (h:E.busy=4∨E.busy=5) (line:Int):Mov.goes ⟨E,line,[]⟩=⟨E,line,[]⟩:=by
 unfold Mov.goes
 rw [if_neg (by show ¬E.busy=1;omega),if_neg (by show ¬E.busy=2;omega)]
theorem Jdn (h:S.P1 l X Y) (p:S.pr 1 k Vs) {j:Nat} (hy:Y j): ∃N m E,S.nodes[j]? =some N∧N.ans=[m]∧S.dir[l]? =some E∧m.line=(l:Nat)∧(S.answer (j:Nat)).1=((S.setN j { N with ans:=[] }).setE l (Zh E (j:Nat) m).1).sends (l:Nat) (Zh E (j:Nat) m).2.1∧
  Zh E (j:Nat) m=(if nz (E.lose (j:Nat) m).wait=true then (E.lose (j:Nat) m,[],0) else ((Mov.goes ⟨E.lose (j:Nat) m,m.line,[]⟩).e,(Mov.goes ⟨E.lose (j:Nat) m,m.line,[]⟩).out,0)):=by
 obtain ⟨E,hE,hb,hnz,hX,hW⟩:=h.e
 have hjl:=h.lt j (.inr hy)
 obtain ⟨N,hN⟩:=ZaY hjl
 obtain ⟨a,b,c⟩:=h.qs.nd j N hN
 obtain ⟨m,ha,hm⟩:=c.one hy
 have hi:((j:Nat):Int)<S.c.cores:=by have:=p.wf.nodes;omega
 have hA:S.aV l (j:Nat)=[m]:=by
  unfold Sys.aV
  rw [Zao hN,ha,ZfX hm]
 have hg:=((p.qu j N hN).ans m (by rw [ha];simp)).1
 obtain ⟨_,a1,a2⟩:=Jcv (p.line l E hE).ei (Qck p.wf) (by omega) hi hg (p.line l E hE).cv hA
 have hent:S.ent m.line=some (l,E):=by rw [hm];exact Sys.ent_of hE
 refine ⟨N,m,E,hN,ha,hE,hm,?_,?_⟩
 ·unfold Sys.answer;rw [Sys.at_of hN];simp only;rw [ha];simp only;rw [hent];simp only;rw [if_neg (fun q=>q a1),hm]
 ·unfold Zh at a1 ⊢
  split
  ·rename_i c1;rw [if_pos c1] at a1;exact absurd a1 (show ¬(1:Int)=0 by decide)
  ·rename_i c1
   rw [if_neg c1] at a1
   split
   ·rename_i c2;rw [if_pos c2] at a1;exact absurd a1 (show ¬(16:Int)=0 by decide)
   ·rfl
theorem Jfd (h:S.P1 l X Y) (p:S.pr 1 k Vs) (hk:k<100000) {j:Nat} (hy:Y j):
  ((S.answer (j:Nat)).1.P1 l X (fun i=>Y i∧i≠j)∨(S.answer (j:Nat)).1.P2 l∨ ∃i,(S.answer (j:Nat)).1.P3 l i)∧(S.answer (j:Nat)).1.pr 1 (k+1) Vs:=by
 obtain ⟨N,m,E,hN,ha,hE,hm,e,hs⟩:=Jdn h p hy
 obtain ⟨E',hE',hb,hnz,hX,hW⟩:=h.e
 rw [hE] at hE';cases hE'
 obtain ⟨a,b,c⟩:=h.qs.nd j N hN
 have hxn: ¬X j:=fun x=>h.xy j x hy
 have pp:=(Xe4 p (by decide) hk (j:Nat)).1
 obtain ⟨l1,l2,l3,l4,l5,l6,l7,l8⟩:=Jb1 E (j:Nat) m
 have hml:0≤m.line∧m.line<S.c.lines:=(p.wf.nd j N hN).ans.2 m (by rw [ha];simp)
 have hlines:=p.wf.c.lines
 have hF:OutF m.line (Zh E (j:Nat) m).2.1:=QcA ⟨hml.1,by omega⟩
 have hok:=hF.ok
 have q1:(S.setN j { N with ans:=[] }).Qs l no X (fun i=>Y i∧i≠j):=
  h.qs.setN hN ⟨a,b,.no (fun a=>a.2 rfl)⟩ (fun i hi=>⟨Iff.rfl,Iff.rfl,⟨fun a=>a.1,fun a=>⟨a,hi⟩⟩⟩)
 have hlen:(S.setN j { N with ans:=[] }).nodes.length=S.nodes.length:=List.length_set
 by_cases hw:nz (E.lose (j:Nat) m).wait=true
 ·rw [if_pos hw] at hs
  rw [e,hs] at pp ⊢
  have q2:=q1.setE (E.lose (j:Nat) m)
  refine ⟨.inl ⟨q2,fun i x y=>h.xy i x y.1,fun i hi=> ?_,E.lose (j:Nat) m,List.getElem?_set_self (Ze hE),by rw [l2];exact hb,hw,fun i hi=> ?_,fun i hi=> ?_⟩,q2.small pp⟩
  ·show i<(S.setN j { N with ans:=[] }).nodes.length
   rw [hlen];exact h.lt i (hi.imp id And.left)
  ·rw [l4,J5,hX i (hi.imp id And.left)]
   have:j≠i:=by
    rcases hi with x|y
    ·intro e;subst e;exact hxn x
    ·exact fun e=>y.2 e.symm
   simpa using fun a=>this (by omega)
  ·rw [l4,J5,Bool.and_eq_true] at hi
   obtain ⟨w,rfl,hw⟩:=hW i hi.1
   refine ⟨w,rfl,hw.imp id (fun y=>⟨y,fun e=> ?_⟩)⟩
   subst e
   have:=hi.2
   simp at this
 ·rw [if_neg hw] at hs
  have hX0: ∀i,X i∨(Y i∧i≠j)→False:=fun i hi=>hw (nz_has.2 ⟨(i:Nat),by
   rw [l4,J5,hX i (hi.imp id And.left)]
   have:j≠i:=by
    rcases hi with x|y
    ·intro e;subst e;exact hxn x
    ·exact fun e=>y.2 e.symm
   simpa using fun a=>this (by omega)⟩)
  have q2:(S.setN j { N with ans:=[] }).Qs l no no no:=q1.iff (fun _=>Iff.rfl) (fun i=>⟨fun a=>a.elim,fun a=>hX0 i (.inl a)⟩) (fun i=>⟨fun a=>a.elim,fun a=>hX0 i (.inr a)⟩)
  have ge:=Xbd (p.line l E hE).ei
  have hwho:=(p.line l E hE).ei.who hb
  obtain ⟨hbk,hw0,_⟩:=ge.b1 hb
  by_cases hb1:E.busy=1∨E.busy=2
  ·obtain ⟨y,g1,g2⟩:=Jeu (E:=E.lose (j:Nat) m) (by rw [l2];exact hb1) m.line
   obtain ⟨w,hw'⟩: ∃w:Nat,E.who=(w:Nat):=⟨E.who.toNat,by omega⟩
   rw [l3,hw'] at g1
   rw [hs] at hok
   rw [e,hs] at pp ⊢
   simp only at pp hok ⊢
   rw [g1] at pp hok ⊢
   have h3:=XdR (E':=(Mov.goes ⟨E.lose (j:Nat) m,m.line,[]⟩).e) (S:=S.setN j { N with ans:=[] }) q2 (Ze hE) g2 (w:=w) (by rw [hlen];have:=p.wf.nodes;omega) (by rw [←hm];exact (hok _ (List.mem_singleton.2 rfl)).1)
   exact ⟨.inr (.inr ⟨w,h3⟩),h3.qs.small pp⟩
  ·have hb4:E.busy=4∨E.busy=5:=by omega
   rw [XcQ (by rw [l2];exact hb4)] at hs
   rw [e,hs] at pp ⊢
   have q3:=q2.setE (E.lose (j:Nat) m)
   exact ⟨.inr (.inl ⟨q3,E.lose (j:Nat) m,List.getElem?_set_self (Ze hE),by rw [l2];exact hb4,by simpa using hw⟩),q3.small pp⟩
theorem Jbn (G:Ent) (line b i:Int) (c:JaN) (kind:Int):(Mov.wait ⟨G,line,[]⟩ b i c kind).e={ G with busy:=b,who:=i,wait:=c }∧ ∃y,(Mov.wait ⟨G,line,[]⟩ b i c kind).out=(Zaa c).map fun to=>(⟨to,y⟩:Snd):=by
 obtain ⟨a,e⟩:=Jam kind (Zaa c) ⟨{ G with busy:=b,who:=i,wait:=c },line,[]⟩
 exact ⟨a,_,e.trans (List.nil_append _)⟩
def QgH (G E':Ent) (out:List Snd) (i:Int) (x:Ms):Prop:=
 (∃y,out=[⟨i,y⟩]∧E'.busy=0∧x.kind≤3)∨ ∃b c y,(((b=1∨b=2)∧x.kind≤2)∨(b=4∧c=Q8 G.owner)∨(b=5∧c=G.holders))∧E'={ G with busy:=b,who:=i,wait:=c }∧out=(Zaa c).map fun to=>(⟨to,y⟩:Snd)
theorem Qcu {G:Ent} (hb:G.busy=0) (line i:Int) {x:Ms} (hx:1≤x.kind∧x.kind≤5):QgH G (Mov.asked ⟨G,line,[]⟩ i x).e (Mov.asked ⟨G,line,[]⟩ i x).out i x:=by
 unfold Mov.asked
 split
 ·unfold Mov.getS
  split
  ·obtain ⟨a,y,e⟩:=Jbn G line 1 i (Q8 G.owner) 13
   exact .inr ⟨_,_,y,.inl ⟨.inl rfl,by omega⟩,a,e⟩
  ·split
   ·exact .inl ⟨_,rfl,hb,by omega⟩
   ·exact .inl ⟨_,rfl,hb,by omega⟩
 split
 ·unfold Mov.getM
  split
  ·exact .inl ⟨_,rfl,hb,by omega⟩
  ·obtain ⟨a,y,e⟩:=Jbn G line 2 i (G.holders &&& ~~~(Q8 i)) 12
   exact .inr ⟨_,_,y,.inl ⟨.inr rfl,by omega⟩,a,e⟩
 split
 ·refine .inl ⟨_,rfl,?_,by omega⟩
  show (if G.owner=i then Ent.take { G with owner:= -1 } x else { G with share:=G.share &&& ~~~(Q8 i) }).busy=0
  split
  ·unfold Ent.take
   split<;>exact hb
  ·exact hb
 split
 ·obtain ⟨a,y,e⟩:=Jbn G line 4 i (Q8 G.owner) 13
  exact .inr ⟨_,_,y,.inr (.inl ⟨rfl,rfl⟩),a,e⟩
 ·obtain ⟨a,y,e⟩:=Jbn G line 5 i G.holders 12
  exact .inr ⟨_,_,y,.inr (.inr ⟨rfl,rfl⟩),a,e⟩
theorem Xgc {i:Nat} (h:S.P0 l i) (p:S.pr 1 k Vs): ∃N m E,S.nodes[i]? =some N∧N.up=[m]∧S.dir[l]? =some E∧m.line=(l:Nat)∧(S.up (i:Nat)).1=(((S.setE l (S.got l E)).setN i { N with up:=[] }).setE l (JaB (S.got l E) (i:Nat) m).1).sends (l:Nat) (JaB (S.got l E) (i:Nat) m).2.1∧
  JaB (S.got l E) (i:Nat) m=((Mov.asked ⟨S.got l E,m.line,[]⟩ (i:Nat) m).e,(Mov.asked ⟨S.got l E,m.line,[]⟩ (i:Nat) m).out,0)∧(S.got l E).busy=0∧(1≤m.kind∧m.kind≤5)∧EI S.c.cores (JaB (S.got l E) (i:Nat) m).1 (Vs l) (ZY S.q S.D (l:Nat)):=by
 obtain ⟨N,hN⟩:=ZaY h.lt
 obtain ⟨a,b,c⟩:=h.qs.nd i N hN
 obtain ⟨m,hu,hm⟩:=a.one rfl
 have hml:0≤m.line∧m.line<S.c.lines:=(p.wf.nd i N hN).up.2 m (by rw [hu];simp)
 have hdl:=p.wf.dir
 obtain ⟨E,hE⟩: ∃E,S.dir[l]? =some E:=⟨_,List.getElem?_eq_getElem (by omega)⟩
 obtain ⟨hg,hak⟩:=(p.qu i N hN).up m (by rw [hu];simp)
 have hent:S.ent m.line=some (l,E):=by rw [hm];exact Sys.ent_of hE
 have hb:=h.bz E hE
 have hL:=p.line l E hE
 have hi:((i:Nat):Int)<S.c.cores:=by have:=h.lt;have:=p.wf.nodes;omega
 have hgot:EI S.c.cores (S.got l E) (Vs l) (ZY S.q S.D (l:Nat))∧Xbk S.c.cores (S.got l E) (Vs l) (S.sV l) (S.dV l) (S.uV l) (S.nV l) (S.aV l)∧(S.got l E).busy=0:=by
  unfold Sys.got
  split
  ·exact ⟨hL.ei,hL.cv,hb⟩
  ·rename_i hh
   obtain ⟨a,b⟩:=Qdo hL.ei (by simpa using hh) hL.cv
   exact ⟨a,b,hb⟩
 obtain ⟨g1,g2,g3⟩:=hgot
 have hU:S.uV l (i:Nat)=if m.kind≤3 then m::[] else []:=by
  unfold Sys.uV
  rw [Zao hN,hu,Qc0]
  by_cases hk3:m.kind≤3
  ·rw [if_pos ⟨hm,hk3⟩,if_pos hk3];rfl
  ·rw [if_neg (fun a=>hk3 a.2),if_neg hk3];rfl
 obtain ⟨a1,a2⟩:=Xd4 g1 (Qck p.wf) g3 (Qee S l E) (by omega) hi hg hak g2 hU
 refine ⟨N,m,E,hN,hu,hE,hm,?_,?_,g3,of_decide_eq_true hak,a2.ei⟩
 ·unfold Sys.up;rw [Sys.at_of hN];simp only;rw [hu];simp only;rw [hent];simp only;rw [if_neg (fun a=>a hb),if_neg (fun q=>q a1),Qcj S l E hE,hm]
 ·unfold JaB at a1 ⊢
  split
  ·rename_i c1;rw [if_pos c1] at a1;exact absurd a1 (show ¬(1:Int)=0 by decide)
  ·rename_i c1
   rw [if_neg c1] at a1
   split
   ·rename_i c2;rw [if_pos c2] at a1;exact absurd a1 (show ¬(15:Int)=0 by decide)
   ·rename_i c2
    rw [if_neg c2] at a1
    split
    ·rename_i c3;rw [if_pos c3] at a1;exact absurd a1 (show ¬(16:Int)=0 by decide)
    ·rfl
theorem Zgx {i:Nat} (h:S.P0 l i) (p:S.pr 1 k Vs) (hk:k<100000):
  ((∃X,(S.up (i:Nat)).1.P1 l X no)∨(S.up (i:Nat)).1.P2 l∨(S.up (i:Nat)).1.P3 l i)∧(S.up (i:Nat)).1.pr 1 (k+1) Vs:=by
 obtain ⟨N,m,E,hN,hu,hE,hm,e,hs,hb,hkd,ei⟩:=Xgc h p
 obtain ⟨a,b,c⟩:=h.qs.nd i N hN
 have pp:=(Jgu p (by decide) hk (i:Nat)).1
 have hml:0≤m.line∧m.line<S.c.lines:=(p.wf.nd i N hN).up.2 m (by rw [hu];simp)
 have hlines:=p.wf.c.lines
 have hF:OutF m.line (JaB (S.got l E) (i:Nat) m).2.1:=Zd6 ⟨hml.1,by omega⟩
 have hok:=hF.ok
 have hsh:=Qcu hb m.line (i:Nat) hkd
 have q0:(S.setE l (S.got l E)).Qs l (· =i) no no:=h.qs.setE _
 have q1:((S.setE l (S.got l E)).setN i { N with up:=[] }).Qs l no no no:=
  q0.setN hN ⟨.no id,b,c⟩ (fun j hj=>⟨⟨fun a=>a.elim,fun a=>absurd a hj⟩,Iff.rfl,Iff.rfl⟩)
 have hlen:((S.setE l (S.got l E)).setN i { N with up:=[] }).nodes.length=S.nodes.length:=List.length_set
 have hdlen:l<((S.setE l (S.got l E)).setN i { N with up:=[] }).dir.length:=by
  show l<(S.dir.set l _).length
  rw [List.length_set];exact Ze hE
 have nl:=p.wf.nodes
 rw [e,hs] at pp ⊢
 rw [hs] at hok ei
 simp only at pp hok ei ⊢
 generalize (Mov.asked ⟨S.got l E,m.line,[]⟩ (i:Nat) m).e=E' at*
 generalize (Mov.asked ⟨S.got l E,m.line,[]⟩ (i:Nat) m).out=out at*
 rcases hsh with ⟨y,rfl,h0,_⟩|⟨bb,cc,y,hbb,rfl,rfl⟩
 ·have h3:=XdR (E':=E') (S:=(S.setE l (S.got l E)).setN i { N with up:=[] }) q1 hdlen h0 (w:=i) (by rw [hlen];exact h.lt) (by rw [←hm];exact (hok _ (List.mem_singleton.2 rfl)).1)
  exact ⟨.inr (.inr h3),h3.qs.small pp⟩
 ·obtain ⟨r1,r2,r3,r4⟩:=JL (l:Nat) ((Zaa cc).map fun to=>(⟨to,y⟩:Snd)) (((S.setE l (S.got l E)).setN i { N with up:=[] }).setE l { S.got l E with busy:=bb,who:=(i:Nat),wait:=cc })
  have ge:=Xbd ei
  have hdir:(((S.setE l (S.got l E)).setN i { N with up:=[] }).setE l { S.got l E with busy:=bb,who:=(i:Nat),wait:=cc }).dir[l]? =some { S.got l E with busy:=bb,who:=(i:Nat),wait:=cc }:=List.getElem?_set_self hdlen
  by_cases hz:nz cc=true
  ·have q2:=(q1.setE { S.got l E with busy:=bb,who:=(i:Nat),wait:=cc }).sends (out:=(Zaa cc).map fun to=>(⟨to,y⟩:Snd)) (Z:=fun j=>Js cc (j:Nat)=true) (fun j hj=>⟨y,by rw [Zax,if_pos hj],by
    rw [←hm]
    exact (hok ⟨(j:Nat),y⟩ (List.mem_map.2 ⟨(j:Nat),mem_cores.2 hj,rfl⟩)).1⟩) (fun j hj=>by rw [Zax,if_neg hj]) (fun _ _ h=>h)
   refine ⟨.inl ⟨fun j=>Js cc (j:Nat)=true,⟨q2.iff (fun _=>Iff.rfl) (fun j=>⟨.inr,fun a=>a.elim (fun a=>a.elim) id⟩) (fun _=>Iff.rfl),fun _ _ h=>h,fun j hj=> ?_,_,by rw [r1];exact hdir,?_,hz,fun j hj=>hj.elim id (fun a=>a.elim),fun j hj=> ?_⟩⟩,q2.small pp⟩
   ·rw [Zcv]
    show j<((S.setE l (S.got l E)).setN i { N with up:=[] }).nodes.length
    rw [hlen]
    have hj':Js cc (j:Nat)=true:=hj.elim id (fun a=>a.elim)
    rcases ge.st (j:Nat) hj' with s|s
    ·have:=ei.shr (j:Nat) s;omega
    ·have:=ei.own;have s':(S.got l E).owner=(j:Nat):=s;have t:(S.got l E).owner<S.c.cores:=this;omega
   ·show bb≠0;omega
   ·have hr:=XaV hj
    exact ⟨j.toNat,by omega,.inl (by rw [show ((j.toNat:Nat):Int)=j by omega];exact hj)⟩
  ·have hz':nz cc=false:=by simpa using hz
   have h45:bb=4∨bb=5:=by
    have n12: ¬(bb=1∨bb=2):=fun a=>hz (nz_has.2 (ge.b2 a))
    omega
   have q2:=(q1.setE { S.got l E with busy:=bb,who:=(i:Nat),wait:=cc }).sends (out:=(Zaa cc).map fun to=>(⟨to,y⟩:Snd)) (Z:=no) (fun j hj=>hj.elim) (fun j _=>by rw [Zax,if_neg (by rw [nz_no.1 hz'];decide)]) (fun _ h _=>h)
   refine ⟨.inr (.inl ⟨q2.iff (fun _=>Iff.rfl) (fun j=>⟨fun a=>a.elim,fun a=>a.elim id id⟩) (fun _=>Iff.rfl),_,by rw [r1];exact hdir,h45,hz'⟩),q2.small pp⟩
end
end Go.Proofs.YtmchcjaomcdbmaaGreat.Gen
namespace Go.Proofs.YtmchcjaomcdbmaaGreat.Gen
open Go Go.Proofs.YtmchcjaomcdbmaaGreat.Abs Go.RowKit
def Sys.st (S:Sys) (j:Nat):Sys:=(((S.up (j:Nat)).1.answer (j:Nat)).1.hear (j:Nat)).1
def Sys.wr (S:Sys) (l:Nat):Sys:=((S.push (l:Nat)).1.drain (l:Nat)).1
def ZJ (n:Nat) (S:Sys):Sys:=(List.range n).foldl Sys.st S
def Qas (n:Nat) (S:Sys):Sys:=(List.range n).foldl Sys.wr S
def Sys.round (S:Sys):Sys:=Qas S.c.lines.toNat (ZJ S.c.cores.toNat S)
def Xk:Nat→Sys→Sys
 | 0,S=>S
 | r+1,S=>Xk r S.round
structure Keep (l ia:Nat) (Vs:Nat→Ln) (T Tc:Sys→Prop):Prop where
 up: ∀{S:Sys} {k:Nat},S.P0 l ia→S.pr 1 k Vs→k<100000→T S→T (S.up (ia:Nat)).1
 ans: ∀{S:Sys} {X Y:Nat→Prop} {j k:Nat},S.P1 l X Y→S.pr 1 k Vs→k<100000→Y j→T S→T (S.answer (j:Nat)).1
 hear: ∀{S:Sys} {X Y:Nat→Prop} {j k:Nat},S.P1 l X Y→S.pr 1 k Vs→k<100000→X j→T S→T (S.hear (j:Nat)).1
 wr: ∀{S:Sys} {k:Nat},S.P2 l→S.q=[]→S.pr 1 k Vs→k<100000→T S→T (S.wr l)
 told: ∀{S:Sys} {i k:Nat},S.P3 l i→S.pr 1 k Vs→k<100000→T S→Tc (S.hear (i:Nat)).1
def R3 (l:Nat) (T Tc:Sys→Prop) (S:Sys):Prop:=(∃i,S.P3 l i∧T S)∨(S.calm∧Tc S)
def Fi (l:Nat) (T Tc:Sys→Prop) (S:Sys):Prop:=(S.P2 l∧T S)∨R3 l T Tc S
theorem XgJ (S:Sys) (i:Int):(S.up i).1.c=S.c:=Zf2 S ⟨4,i,0,0,0⟩
theorem Zfo (S:Sys) (i:Int):(S.answer i).1.c=S.c:=Zf2 S ⟨5,i,0,0,0⟩
theorem Jge (S:Sys) (i:Int):(S.hear i).1.c=S.c:=Zf2 S ⟨6,i,0,0,0⟩
theorem Qgm (S:Sys) (i:Int):(S.push i).1.c=S.c:=Zf2 S ⟨7,0,i,0,0⟩
theorem QfU (S:Sys) (i:Int):(S.drain i).1.c=S.c:=Zf2 S ⟨10,0,i,0,0⟩
theorem QgI (S:Sys) (j:Nat):(S.st j).c=S.c:=(Jge _ _).trans ((Zfo _ _).trans (XgJ _ _))
theorem JgG (S:Sys) (j:Nat):(S.wr j).c=S.c:=(QfU _ _).trans (Qgm _ _)
theorem Q6 (n:Nat) (S:Sys):ZJ (n+1) S=(ZJ n S).st n:=by unfold ZJ;rw [List.range_succ,List.foldl_append];rfl
theorem Xah (n:Nat) (S:Sys):Qas (n+1) S=(Qas n S).wr n:=by unfold Qas;rw [List.range_succ,List.foldl_append];rfl
theorem Jcj (S:Sys): ∀n,(ZJ n S).c=S.c
 | 0=>rfl
 | n+1=>by rw [Q6,QgI];exact Jcj S n
theorem Jd9 (S:Sys): ∀n,(Qas n S).c=S.c
 | 0=>rfl
 | n+1=>by rw [Xah,JgG];exact Jd9 S n
theorem XgD (S:Sys) (i:Int):(S.up i).1.q=S.q:=by
 unfold Sys.up
 split
 ·rfl
 ·split
  ·rfl
  ·split
   ·rfl
   ·have hh: ∀j e,(S.here j e).q=S.q:=fun j e=>by unfold Sys.here;split<;>rfl
    split
    ·rfl
    ·split
     ·exact hh _ _
     ·rw [(JL _ _ _).2.1];exact hh _ _
theorem Xea (S:Sys) (i:Int):(S.answer i).1.q=S.q:=by
 unfold Sys.answer
 split
 ·rfl
 ·split
  ·rfl
  ·split
   ·rfl
   ·split
    ·rfl
    ·rw [(JL _ _ _).2.1];rfl
theorem JfK (S:Sys) (i:Int):(S.hear i).1.q=S.q:=by
 unfold Sys.hear
 split
 ·rfl
 ·split<;>rfl
theorem ZgK (S:Sys) (j:Nat):(S.st j).q=S.q:=(JfK _ _).trans ((Xea _ _).trans (XgD _ _))
theorem Jcf (S:Sys): ∀n,(ZJ n S).q=S.q
 | 0=>rfl
 | n+1=>by rw [Q6,ZgK];exact Jcf S n
theorem Qco (S:Sys):S.round.c=S.c:=(Jd9 _ _).trans (Jcj _ _)
section
variable {S:Sys} {k l ia:Nat} {Vs:Nat→Ln} {X Y:Nat→Prop} {T Tc:Sys→Prop}
theorem Zd8 {j:Nat} (hu: ∀N,S.nodes[j]? =some N→N.up=[]) (ha: ∀N,S.nodes[j]? =some N→N.ans=[]):S.st j=(S.hear (j:Nat)).1:=by
 unfold Sys.st
 rw [QfJ hu,Xc6 ha]
theorem Xbf {U:Nat→Prop} {j:Nat} (h:S.Qs l U X Y) (hu: ¬U j) (hx: ¬X j) (hy: ¬Y j):S.st j=S:=by
 rw [Zd8 (fun N hN=>(h.nd j N hN).1.nil hu) (fun N hN=>(h.nd j N hN).2.2.nil hy),Xbq (fun N hN=>(h.nd j N hN).2.1.nil hx)]
theorem Jgj (K:Keep l ia Vs T Tc) (h:S.P1 l X Y) (p:S.pr 1 k Vs) (hk:k+3<100000) (ht:T S) (j:Nat):
  ((∃X' Y',(S.st j).P1 l X' Y'∧T (S.st j)∧(∀i,X' i→i≠j∧X i)∧(∀i,Y' i→(i≠j∧Y i)∨(i=j∧X i)))∨Fi l T Tc (S.st j))∧(S.st j).pr 1 (k+3) Vs:=by
 have hu: ∀N,S.nodes[j]? =some N→N.up=[]:=fun N hN=>(h.qs.nd j N hN).1.nil id
 by_cases hx:X j
 ·rw [Zd8 hu (fun N hN=>(h.qs.nd j N hN).2.2.nil (h.xy j hx))]
  obtain ⟨h1,p1⟩:=ZeH h p (by omega) hx
  exact ⟨.inl ⟨_,_,h1,K.hear h p (by omega) hx ht,fun i hi=>⟨hi.2,hi.1⟩,fun i hi=>hi.elim (fun y=> .inl ⟨fun e=>h.xy i (e▸hx) y,y⟩) (fun e=> .inr ⟨e,e▸hx⟩)⟩,p1.le (by omega) (by omega)⟩
 ·by_cases hy:Y j
  ·obtain ⟨h1,p1⟩:=Jfd h p (by omega) hy
   have t1:=K.ans h p (by omega) hy ht
   have e:S.st j=((S.answer (j:Nat)).1.hear (j:Nat)).1:=by unfold Sys.st;rw [QfJ hu]
   rw [e]
   rcases h1 with h1|h1|⟨i,h1⟩
   ·rw [Xbq (fun N hN=>(h1.qs.nd j N hN).2.1.nil hx)]
    exact ⟨.inl ⟨X,_,h1,t1,fun i hi=>⟨fun e=>hx (e▸hi),hi⟩,fun i hi=> .inl ⟨hi.2,hi.1⟩⟩,p1.le (by omega) (by omega)⟩
   ·rw [Xbq (fun N hN=>(h1.qs.nd j N hN).2.1.nil id)]
    exact ⟨.inr (.inl ⟨h1,t1⟩),p1.le (by omega) (by omega)⟩
   ·by_cases e':j=i
    ·subst e'
     obtain ⟨h2,p2⟩:=Zc7 h1 p1 (by omega)
     exact ⟨.inr (.inr (.inr ⟨h2,K.told h1 p1 (by omega) t1⟩)),p2.le (by omega) (by omega)⟩
    ·rw [Xbq (fun N hN=>(h1.qs.nd j N hN).2.1.nil e')]
     exact ⟨.inr (.inr (.inl ⟨i,h1,t1⟩)),p1.le (by omega) (by omega)⟩
  ·rw [Xbf h.qs id hx hy]
   exact ⟨.inl ⟨X,Y,h,ht,fun i hi=>⟨fun e=>hx (e▸hi),hi⟩,fun i hi=> .inl ⟨fun e=>hy (e▸hi),hi⟩⟩,p.le (by omega) (by omega)⟩
theorem Zge (K:Keep l ia Vs T Tc) (h:Fi l T Tc S) (p:S.pr 1 k Vs) (hk:k+3<100000) (j:Nat):Fi l T Tc (S.st j)∧(S.st j).pr 1 (k+3) Vs∧(R3 l T Tc S→R3 l T Tc (S.st j)):=by
 have p3:=p.le (Nat.le_refl 1) (show k≤k+3 by omega)
 rcases h with ⟨h,ht⟩|⟨i,h,ht⟩|⟨h,ht⟩
 ·rw [Xbf h.qs id id id];exact ⟨.inl ⟨h,ht⟩,p3,id⟩
 ·by_cases e':j=i
  ·subst e'
   rw [Zd8 (fun N hN=>(h.qs.nd j N hN).1.nil id) (fun N hN=>(h.qs.nd j N hN).2.2.nil id)]
   obtain ⟨h2,p2⟩:=Zc7 h p (by omega)
   have r:R3 l T Tc (S.hear (j:Nat)).1:= .inr ⟨h2,K.told h p (by omega) ht⟩
   exact ⟨.inr r,p2.le (by omega) (by omega),fun _=>r⟩
  ·rw [Xbf h.qs id e' id];exact ⟨.inr (.inl ⟨i,h,ht⟩),p3,id⟩
 ·rw [Xbf (h.qs l) id id id];exact ⟨.inr (.inr ⟨h,ht⟩),p3,id⟩
theorem Qd2 (K:Keep l ia Vs T Tc) (h:S.P1 l X Y) (p:S.pr 1 k Vs) (ht:T S): ∀n:Nat,k+3*n<100000→
  ((∃X' Y',(ZJ n S).P1 l X' Y'∧T (ZJ n S)∧(∀i,X' i→n≤i∧X i)∧(∀i,Y' i→(n≤i∧Y i)∨X i))∨Fi l T Tc (ZJ n S))∧(ZJ n S).pr 1 (k+3*n) Vs
 | 0,_=>⟨.inl ⟨X,Y,h,ht,fun i hi=>⟨Nat.zero_le _,hi⟩,fun i hi=> .inl ⟨Nat.zero_le _,hi⟩⟩,p⟩
 | n+1,hk=>by
  obtain ⟨h1,p1⟩:=Qd2 K h p ht n (by omega)
  rw [Q6]
  rcases h1 with ⟨X',Y',h1,t1,hX,hY⟩|h1
  ·obtain ⟨h2,p2⟩:=Jgj K h1 p1 (by omega) t1 n
   refine ⟨?_,p2.le (by omega) (by omega)⟩
   rcases h2 with ⟨X2,Y2,h2,t2,hX2,hY2⟩|h2
   ·refine .inl ⟨X2,Y2,h2,t2,fun i hi=> ?_,fun i hi=> ?_⟩
    ·obtain ⟨a,b⟩:=hX2 i hi
     obtain ⟨c,d⟩:=hX i b
     exact ⟨by omega,d⟩
    ·rcases hY2 i hi with ⟨a,b⟩|⟨a,b⟩
     ·rcases hY i b with ⟨c,d⟩|d
      ·exact .inl ⟨by omega,d⟩
      ·exact .inr d
     ·exact .inr (hX i b).2
   ·exact .inr h2
  ·obtain ⟨h2,p2,_⟩:=Zge K h1 p1 (by omega) n
   exact ⟨.inr h2,p2.le (by omega) (by omega)⟩
theorem Xd3 (K:Keep l ia Vs T Tc) (h:S.P0 l ia) (p:S.pr 1 k Vs) (ht:T S): ∀n:Nat,k+3*n<100000→
  ((n≤ia∧ZJ n S=S)∨(ia<n∧(∃X' Y',(ZJ n S).P1 l X' Y'∧T (ZJ n S)))∨(ia<n∧Fi l T Tc (ZJ n S)))∧(ZJ n S).pr 1 (k+3*n) Vs
 | 0,_=>⟨.inl ⟨Nat.zero_le _,rfl⟩,p⟩
 | n+1,hk=>by
  obtain ⟨h1,p1⟩:=Xd3 K h p ht n (by omega)
  rw [Q6]
  rcases h1 with ⟨h1,e⟩|⟨hi,X',Y',h1,t1⟩|⟨hi,h1⟩
  ·rw [e] at p1 ⊢
   by_cases e':n=ia
   ·subst e'
    obtain ⟨h2,p2⟩:=Zgx h p1 (by omega)
    have t2:=K.up h p1 (by omega) ht
    have e3:S.st n=((((S.up (n:Nat)).1).answer (n:Nat)).1.hear (n:Nat)).1:=rfl
    rw [e3]
    rcases h2 with ⟨X,h2⟩|h2|h2
    ·rw [Xc6 (fun N hN=>(h2.qs.nd n N hN).2.2.nil id)]
     by_cases hx:X n
     ·obtain ⟨h4,p4⟩:=ZeH h2 p2 (by omega) hx
      exact ⟨.inr (.inl ⟨by omega,_,_,h4,K.hear h2 p2 (by omega) hx t2⟩),p4.le (by omega) (by omega)⟩
     ·rw [Xbq (fun N hN=>(h2.qs.nd n N hN).2.1.nil hx)]
      exact ⟨.inr (.inl ⟨by omega,_,_,h2,t2⟩),p2.le (by omega) (by omega)⟩
    ·rw [Xc6 (fun N hN=>(h2.qs.nd n N hN).2.2.nil id),Xbq (fun N hN=>(h2.qs.nd n N hN).2.1.nil id)]
     exact ⟨.inr (.inr ⟨by omega,.inl ⟨h2,t2⟩⟩),p2.le (by omega) (by omega)⟩
    ·rw [Xc6 (fun N hN=>(h2.qs.nd n N hN).2.2.nil id)]
     obtain ⟨h4,p4⟩:=Zc7 h2 p2 (by omega)
     exact ⟨.inr (.inr ⟨by omega,.inr (.inr ⟨h4,K.told h2 p2 (by omega) t2⟩)⟩),p4.le (by omega) (by omega)⟩
   ·rw [Xbf h.qs e' id id]
    exact ⟨.inl ⟨by omega,rfl⟩,p1.le (by omega) (by omega)⟩
  ·obtain ⟨h2,p2⟩:=Jgj K h1 p1 (by omega) t1 n
   refine ⟨?_,p2.le (by omega) (by omega)⟩
   rcases h2 with ⟨X2,Y2,h2,t2,_,_⟩|h2
   ·exact .inr (.inl ⟨by omega,X2,Y2,h2,t2⟩)
   ·exact .inr (.inr ⟨by omega,h2⟩)
  ·obtain ⟨h2,p2,_⟩:=Zge K h1 p1 (by omega) n
   exact ⟨.inr (.inr ⟨by omega,h2⟩),p2.le (by omega) (by omega)⟩
theorem Xed (K:Keep l ia Vs T Tc) (h:R3 l T Tc S) (p:S.pr 1 k Vs): ∀n:Nat,k+3*n<100000→
  ((∃i,n≤i∧(ZJ n S).P3 l i∧T (ZJ n S))∨((ZJ n S).calm∧Tc (ZJ n S)))∧(ZJ n S).pr 1 (k+3*n) Vs
 | 0,_=>⟨h.imp (fun ⟨i,a⟩=>⟨i,Nat.zero_le _,a⟩) id,p⟩
 | n+1,hk=>by
  obtain ⟨h1,p1⟩:=Xed K h p n (by omega)
  rw [Q6]
  rcases h1 with ⟨i,hi,h1,t1⟩|⟨h1,t1⟩
  ·by_cases e':n=i
   ·subst e'
    rw [Zd8 (fun N hN=>(h1.qs.nd n N hN).1.nil id) (fun N hN=>(h1.qs.nd n N hN).2.2.nil id)]
    obtain ⟨h2,p2⟩:=Zc7 h1 p1 (by omega)
    exact ⟨.inr ⟨h2,K.told h1 p1 (by omega) t1⟩,p2.le (by omega) (by omega)⟩
   ·rw [Xbf h1.qs id e' id]
    exact ⟨.inl ⟨i,by omega,h1,t1⟩,p1.le (by omega) (by omega)⟩
  ·rw [Xbf (h1.qs l) id id id]
   exact ⟨.inr ⟨h1,t1⟩,p1.le (by omega) (by omega)⟩
theorem Zff (hq:S.q=[]) {i:Nat} (h: ∀E,S.dir[i]? =some E→Xaa E=false):S.wr i=S:=by
 unfold Sys.wr
 rw [Xfp h,JeO hq]
theorem Jfc {U:Nat→Prop} (hq:S.q=[]) (h:S.Qs l U X Y) (hb: ∀E,S.dir[l]? =some E→Xaa E=false) (i:Nat):S.wr i=S:=Zff hq fun E hE=>by
 by_cases e:i=l
 ·subst e;exact hb E hE
 ·exact ZbR (h.oth i E hE e)
theorem Qbn (h: ∀i,S.wr i=S): ∀n,Qas n S=S
 | 0=>rfl
 | n+1=>by rw [Xah,Qbn h n];exact h n
theorem Zd7 (h:S.P1 l X Y) (hq:S.q=[]) (n:Nat):Qas n S=S:=Qbn (fun i=>Jfc hq h.qs (fun E hE=>by
 obtain ⟨E',hE',_,hnz,_⟩:=h.e
 rw [hE] at hE';cases hE'
 exact XfX hnz) i) n
theorem Zfl {i:Nat} (h:S.P3 l i) (hq:S.q=[]) (n:Nat):Qas n S=S:=Qbn (fun j=>Jfc hq h.qs (fun E hE=>ZbR (h.bz E hE)) j) n
theorem Zb1 (h:S.calm) (hq:S.q=[]) (n:Nat):Qas n S=S:=Qbn (fun j=>Zff hq (fun E hE=>ZbR (h.bz j E hE))) n
theorem ZcX (h:S.calm): ∀n,ZJ n S=S
 | 0=>rfl
 | n+1=>by rw [Q6,ZcX h n];exact Xbf (h.qs 0) id id id
theorem Qev (h:S.calm) (hq:S.q=[]):S.round=S:=by unfold Sys.round;rw [ZcX h,Zb1 h hq]
theorem QbC (h:S.calm) (hq:S.q=[]): ∀n,Xk n S=S
 | 0=>rfl
 | n+1=>by show Xk n S.round=S;rw [Qev h hq];exact QbC h hq n
theorem QfO (h:S.P2 l) (hq:S.q=[]) (p:S.pr 1 k Vs) (hk:k<100000):(∃i,(S.wr l).P3 l i)∧(S.wr l).pr 1 (k+1) Vs∧(S.wr l).q=[]∧(∃E E',S.dir[l]? =some E∧(S.wr l).dir[l]? =some E'∧E'.owner=E.owner∧E'.dirty=false∧E'.busy=0)∧ ∀j:Nat,((S.wr l).nodes[j]?).map (·.up)=(S.nodes[j]?).map (·.up):=by
 obtain ⟨E,hE,hb,hw⟩:=h.e
 have hL:=p.line l E hE
 have hlt:=Ze hE
 have hr:Xaa E=true:=by
  unfold Xaa
  rw [hL.ei.good,hw,decide_eq_true hb];rfl
 have hq9:=p.wf.c.queue
 have hml:l<S.D.mem.length:=by have:=p.wf.mem;have:=p.wf.dir;omega
 have w0:(S.write l E).2=0:=by
  unfold Sys.write
  split
  ·rfl
  ·show (ZaJ S.q S.D S.c.queue (l:Nat) E.data).2=0
   unfold ZaJ Xcb
   rw [if_pos (show (0:Int)≤(l:Nat)∧((l:Nat):Int)<S.D.mem.length by omega),if_neg (by decide),hq,if_neg (by show ¬S.c.queue≤((0:Nat):Int);omega)]
 have wq:(S.write l E).1.q=[]∨ ∃d,(S.write l E).1.q=[⟨(l:Nat),d⟩]:=by
  unfold Sys.write
  split
  ·exact .inl hq
  ·show (ZaJ S.q S.D S.c.queue (l:Nat) E.data).1=[]∨_
   right
   refine ⟨E.data,?_⟩
   show (ZaJ S.q S.D S.c.queue (l:Nat) E.data).1=_
   unfold ZaJ Xcb
   rw [if_pos (show (0:Int)≤(l:Nat)∧((l:Nat):Int)<S.D.mem.length by omega),if_neg (by decide),hq,if_neg (by show ¬S.c.queue≤((0:Nat):Int);omega)]
   rfl
 obtain ⟨f1,f2,f3,f4,f5⟩:=(QcG p hE).2 w0
 obtain ⟨p1,p2,p3,y,p4,p5⟩:=Qcs (M':=ZY (S.write l E).1.q (S.write l E).1.D (l:Nat)) hL.ei hr hL.cv f4
 have e0:Ji E=((Mov.tell (Mov.over ⟨{ E with dirty:=false },0,[]⟩) E.who 14).e,(Mov.tell (Mov.over ⟨{ E with dirty:=false },0,[]⟩) E.who 14).out,0):=by
  unfold Ji;rw [if_neg (by rw [hr];decide)]
 have hy:y=⟨14,0,false,false,zeroL⟩:=by
  rw [e0] at p4
  simp only [Mov.tell,Mov.over,List.nil_append,List.cons.injEq,Snd.mk.injEq,and_true] at p4
  rw [←p4.2];rfl
 have hb':(Ji E).1.busy=0:=by rw [e0];rfl
 have ge:=Xbd hL.ei
 have hb0:E.busy≠0:=by omega
 have hwho:=hL.ei.who hb0
 obtain ⟨_,hw0,_⟩:=ge.b1 hb0
 obtain ⟨w,hw'⟩: ∃w:Nat,E.who=(w:Nat):=⟨E.who.toNat,by omega⟩
 have hlines:=p.wf.c.lines
 have hdl:=p.wf.dir
 have ep:(S.push (l:Nat)).1=((S.write l E).1.setE l (Ji E).1).sends (l:Nat) [⟨(w:Nat),y⟩]:=by
  unfold Sys.push
  rw [Sys.ent_of hE];simp only
  rw [if_neg (by rw [hr];decide),if_neg (fun a=>a w0),if_neg (fun a=>a p1),p4,hw']
 have pp:=Zfu (QfW p (by decide) hk (l:Nat)) (l:Nat)
 have qq:(S.write l E).1.Qs l no no no:=h.qs.same f1 f2
 have h3:=XdR (S:={ (S.write l E).1 with q:=[] }) (E':=(Ji E).1) (w:=w) (y:=y) (qq.same rfl rfl) (by show l<(S.write l E).1.dir.length;rw [f2];exact hlt) hb' (by show w<(S.write l E).1.nodes.length;rw [f1];have:=p.wf.nodes;omega) (by
  rw [hy]
  unfold Jy JI
  simp only [Bool.not_false,Bool.true_or,Bool.and_true,Bool.false_or]
  rw [decide_eq_true (show 1≤(14:Int)∧(14:Int)≤14∧0≤((l:Nat):Int)∧((l:Nat):Int)<64 by omega)]
  simp)
 have hpush: ∀(Q:List En),((({ (S.write l E).1 with q:=Q }:Sys).setE l (Ji E).1).sends (l:Nat) [⟨(w:Nat),y⟩])={ ((({ (S.write l E).1 with q:=[] }:Sys).setE l (Ji E).1).sends (l:Nat) [⟨(w:Nat),y⟩]) with q:=Q }:=by
  intro Q
  show (({ (S.write l E).1 with q:=Q }:Sys).setE l (Ji E).1).send1 (l:Nat) ⟨(w:Nat),y⟩={ (({ (S.write l E).1 with q:=[] }:Sys).setE l (Ji E).1).send1 (l:Nat) ⟨(w:Nat),y⟩ with q:=Q }
  unfold Sys.send1
  have e1:(({ (S.write l E).1 with q:=Q }:Sys).setE l (Ji E).1).at (w:Nat)=(({ (S.write l E).1 with q:=[] }:Sys).setE l (Ji E).1).at (w:Nat):=rfl
  show (match (({ (S.write l E).1 with q:=Q }:Sys).setE l (Ji E).1).at (w:Nat) with|none=>_|some (i,N)=>_)=_
  rw [e1]
  cases (({ (S.write l E).1 with q:=[] }:Sys).setE l (Ji E).1).at (w:Nat)<;>rfl
 unfold Sys.wr
 rw [ep] at pp ⊢
 have hdr:(((S.write l E).1.setE l (Ji E).1).sends (l:Nat) [⟨(w:Nat),y⟩]).drain (l:Nat)=(((S.write l E).1.setE l (Ji E).1).sends (l:Nat) [⟨(w:Nat),y⟩]).drain (l:Nat):=rfl
 obtain ⟨r1,r2,r3,r4⟩:=JL (l:Nat) [⟨(w:Nat),y⟩] ((S.write l E).1.setE l (Ji E).1)
 have ex:=hpush (S.write l E).1.q
 have et:({ (S.write l E).1 with q:=(S.write l E).1.q }:Sys)=(S.write l E).1:=rfl
 rw [et] at ex
 generalize hZ:((({ (S.write l E).1 with q:=[] }:Sys).setE l (Ji E).1).sends (l:Nat) [⟨(w:Nat),y⟩])=Z at h3 ex
 rw [ex] at pp ⊢
 have hdrain: ∃D',(({ Z with q:=(S.write l E).1.q }:Sys).drain (l:Nat)).1={ Z with q:=[],D:=D' }:=by
  unfold Sys.drain
  split
  ·rename_i hl
   exfalso
   have e1:Z.dir.length=S.dir.length:=by
    rw [←hZ,(JL _ _ _).1]
    show ((S.write l E).1.dir.set l _).length=_
    rw [List.length_set,f2]
   have hl':Z.line (l:Nat)=false:=hl
   unfold Sys.line at hl'
   rw [decide_eq_false_iff_not] at hl'
   exact hl' (by omega)
  ·rcases wq with a|⟨d,a⟩
   ·refine ⟨(ZQ (S.write l E).1.q Z.D (l:Nat)).2.1,?_⟩
    show { Z with q:=(ZQ (S.write l E).1.q Z.D (l:Nat)).1,D:=(ZQ (S.write l E).1.q Z.D (l:Nat)).2.1 }={ Z with q:=[],D:=(ZQ (S.write l E).1.q Z.D (l:Nat)).2.1 }
    rw [a];rfl
   ·refine ⟨(ZQ (S.write l E).1.q Z.D (l:Nat)).2.1,?_⟩
    show { Z with q:=(ZQ (S.write l E).1.q Z.D (l:Nat)).1,D:=(ZQ (S.write l E).1.q Z.D (l:Nat)).2.1 }={ Z with q:=[],D:=(ZQ (S.write l E).1.q Z.D (l:Nat)).2.1 }
    rw [a]
    have:(ZQ [(⟨(l:Nat),d⟩:En)] Z.D (l:Nat)).1=[]:=by
     unfold ZQ
     rw [List.findIdx?_cons,if_pos (by simp)]
     rfl
    rw [this]
 obtain ⟨D',hD'⟩:=hdrain
 rw [hD'] at pp ⊢
 have h4:({ Z with q:=[],D:=D' }:Sys).P3 l w:=⟨h3.qs.same rfl rfl,h3.bz,h3.lt⟩
 refine ⟨⟨w,h4⟩,h4.qs.small pp,rfl,⟨E,(Ji E).1,hE,?_,by rw [e0];rfl,by rw [e0];rfl,hb'⟩,fun j=> ?_⟩
 ·show Z.dir[l]? =_
  rw [←hZ,(JL _ _ _).1]
  show ((S.write l E).1.dir.set l _)[l]? =_
  rw [List.getElem?_set_self (by rw [f2];exact hlt)]
 ·show (Z.nodes[j]?).map (·.up)=_
  rw [←hZ,Qal]
  show (((S.write l E).1.nodes[j]?).map _).map _=_
  rw [f1]
  cases S.nodes[j]? <;>rfl
theorem Zea (K:Keep l ia Vs T Tc) (h:Fi l T Tc S) (hq:S.q=[]) (p:S.pr 1 k Vs) (hk:k<100000) {n:Nat} (hn:l<n):R3 l T Tc (Qas n S)∧(Qas n S).pr 1 (k+1) Vs∧(Qas n S).q=[]:=by
 have pk:=p.le (Nat.le_refl 1) (show k≤k+1 by omega)
 rcases h with ⟨h,ht⟩|⟨i,h,ht⟩|⟨h,ht⟩
 ·have a: ∀m,(m≤l→Qas m S=S)∧(l<m→Qas m S=S.wr l):=by
   intro m
   induction m with
   | zero=>exact ⟨fun _=>rfl,fun h=>absurd h (by omega)⟩
   | succ m ih=>
    constructor
    ·intro hm
     rw [Xah,ih.1 (by omega)]
     exact Zff hq (fun E hE=>ZbR (h.qs.oth m E hE (by omega)))
    ·intro hm
     by_cases e:m=l
     ·subst e;rw [Xah,ih.1 (by omega)]
     ·rw [Xah,ih.2 (by omega)]
      obtain ⟨⟨i,h3⟩,_,hq3,_⟩:=QfO h hq p hk
      exact Jfc hq3 h3.qs (fun E hE=>ZbR (h3.bz E hE)) m
  rw [(a n).2 hn]
  obtain ⟨⟨i,h3⟩,p3,q3,_⟩:=QfO h hq p hk
  exact ⟨.inl ⟨i,h3,K.wr h hq p hk ht⟩,p3,q3⟩
 ·rw [Zfl h hq];exact ⟨.inl ⟨i,h,ht⟩,pk,hq⟩
 ·rw [Zb1 h hq];exact ⟨.inr ⟨h,ht⟩,pk,hq⟩
theorem Qcr (K:Keep l ia Vs T Tc) (h:S.P0 l ia) (hq:S.q=[]) (p:S.pr 1 k Vs) (ht:T S) (hk:k+200<100000) (hl:l<S.dir.length):
  (Xk 6 S).calm∧(Xk 6 S).q=[]∧Tc (Xk 6 S)∧(Xk 6 S).pr 1 (k+200) Vs:=by
 have hc:=p.wf.c.cores
 have hn:=p.wf.nodes
 have hd:=p.wf.dir
 generalize hN:S.c.cores.toNat=n at*
 generalize hLn:S.c.lines.toNat=L at*
 have hn8:n≤8:=by omega
 have rd: ∀{A:Sys},A.c=S.c→A.round=Qas L (ZJ n A):=fun {A} e=>by unfold Sys.round;rw [e,hN,hLn]
 have fin: ∀{A:Sys} {kk:Nat},A.c=S.c→A.q=[]→R3 l T Tc A→A.pr 1 kk Vs→kk+3*n<100000→A.round.calm∧A.round.q=[]∧Tc A.round∧A.round.pr 1 (kk+3*n) Vs:=by
  intro A kk ec eq hr pa hkk
  obtain ⟨h1,p1⟩:=Xed K hr pa n hkk
  have q1:(ZJ n A).q=[]:=(Jcf A n).trans eq
  rw [rd ec]
  rcases h1 with ⟨i,hi,h1,_⟩|⟨h1,t1⟩
  ·have:=h1.lt
   have:=p1.wf.nodes
   rw [Jcj,ec,hN] at this
   omega
  ·rw [Zb1 h1 q1];exact ⟨h1,q1,t1,p1⟩
 have fin2: ∀{A:Sys} {kk r:Nat},A.c=S.c→A.q=[]→R3 l T Tc A→A.pr 1 kk Vs→kk+3*n<100000→(Xk (r+1) A).calm∧(Xk (r+1) A).q=[]∧Tc (Xk (r+1) A)∧(Xk (r+1) A).pr 1 (kk+3*n) Vs:=by
  intro A kk r ec eq hr pa hkk
  obtain ⟨a,b,c,d⟩:=fin ec eq hr pa hkk
  show (Xk r A.round).calm∧(Xk r A.round).q=[]∧Tc (Xk r A.round)∧(Xk r A.round).pr 1 (kk+3*n) Vs
  rw [QbC a b];exact ⟨a,b,c,d⟩
 have step1: ∀{A:Sys} {kk:Nat} {X Y:Nat→Prop},A.c=S.c→A.q=[]→A.P1 l X Y→T A→A.pr 1 kk Vs→kk+3*n+1<100000→
   ((∃X' Y',A.round.P1 l X' Y'∧T A.round∧(∀i,¬X' i)∧(∀i,Y' i→X i))∨R3 l T Tc A.round)∧A.round.pr 1 (kk+3*n+1) Vs∧A.round.q=[]:=by
  intro A kk X Y ec eq h1 t1 pa hkk
  obtain ⟨h2,p2⟩:=Qd2 K h1 pa t1 n (by omega)
  have q1:(ZJ n A).q=[]:=(Jcf A n).trans eq
  rw [rd ec]
  rcases h2 with ⟨X',Y',h2,t2,hX,hY⟩|h2
  ·have hl2:=p2.wf.nodes
   rw [Jcj,ec,hN] at hl2
   rw [Zd7 h2 q1]
   refine ⟨.inl ⟨X',Y',h2,t2,fun i hi=> ?_,fun i hi=> ?_⟩,p2.le (by omega) (by omega),q1⟩
   ·have:=h2.lt i (.inl hi);have:=(hX i hi).1;omega
   ·rcases hY i hi with ⟨a,_⟩|a
    ·have:=h2.lt i (.inr hi);omega
    ·exact a
  ·obtain ⟨h3,p3,q3⟩:=Zea K h2 q1 p2 (by omega) (n:=L) (by omega)
   exact ⟨.inr h3,p3,q3⟩
 obtain ⟨h1,p1⟩:=Xd3 K h p ht n (by omega)
 have q1:(ZJ n S).q=[]:=(Jcf S n).trans hq
 have c1:S.round.c=S.c:=Qco S
 have r1:((∃X' Y',S.round.P1 l X' Y'∧T S.round)∨R3 l T Tc S.round)∧S.round.pr 1 (k+3*n+1) Vs∧S.round.q=[]:=by
  rw [rd rfl]
  rcases h1 with ⟨h1,_⟩|⟨_,X',Y',h1,t1⟩|⟨_,h1⟩
  ·have:=h.lt;omega
  ·rw [Zd7 h1 q1];exact ⟨.inl ⟨X',Y',h1,t1⟩,p1.le (by omega) (by omega),q1⟩
  ·obtain ⟨h3,p3,q3⟩:=Zea K h1 q1 p1 (by omega) (n:=L) (by omega)
   exact ⟨.inr h3,p3,q3⟩
 obtain ⟨r1,p1',q1'⟩:=r1
 have le: ∀{A:Sys} {kk:Nat},kk≤k+200→A.calm∧A.q=[]∧Tc A∧A.pr 1 kk Vs→A.calm∧A.q=[]∧Tc A∧A.pr 1 (k+200) Vs:=fun hkk a=>⟨a.1,a.2.1,a.2.2.1,a.2.2.2.le (Nat.le_refl 1) hkk⟩
 show (Xk 5 S.round).calm∧(Xk 5 S.round).q=[]∧Tc (Xk 5 S.round)∧(Xk 5 S.round).pr 1 (k+200) Vs
 rcases r1 with ⟨X,Y,h1,t1⟩|r1
 ·obtain ⟨h2,p2,q2⟩:=step1 c1 q1' h1 t1 p1' (by omega)
  have c2:S.round.round.c=S.c:=(Qco _).trans c1
  show (Xk 4 S.round.round).calm∧(Xk 4 S.round.round).q=[]∧Tc (Xk 4 S.round.round)∧(Xk 4 S.round.round).pr 1 (k+200) Vs
  rcases h2 with ⟨X2,Y2,h2,t2,hX2,hY2⟩|r2
  ·obtain ⟨h3,p3,q3⟩:=step1 c2 q2 h2 t2 p2 (by omega)
   have c3:S.round.round.round.c=S.c:=(Qco _).trans c2
   show (Xk 3 S.round.round.round).calm∧(Xk 3 S.round.round.round).q=[]∧Tc (Xk 3 S.round.round.round)∧(Xk 3 S.round.round.round).pr 1 (k+200) Vs
   rcases h3 with ⟨X3,Y3,h3,t3,hX3,hY3⟩|r3
   ·exfalso
    obtain ⟨E,_,_,hnz,_,hW⟩:=h3.e
    obtain ⟨j,hj⟩:=nz_has.1 hnz
    obtain ⟨w,_,hw⟩:=hW j hj
    exact hw.elim (hX3 w) (fun a=>hX2 w (hY3 w a))
   ·exact le (by omega) (fin2 (r:=2) c3 q3 r3 p3 (by omega))
  ·exact le (by omega) (fin2 (r:=3) c2 q2 r2 p2 (by omega))
 ·exact le (by omega) (fin2 (r:=4) c1 q1' r1 p1' (by omega))
end
end Go.Proofs.YtmchcjaomcdbmaaGreat.Gen
namespace Go.Proofs.YtmchcjaomcdbmaaGreat.Gen
open Go Go.Proofs.YtmchcjaomcdbmaaGreat.Abs Go.RowKit
def SameA (S T:Sys):Prop:= ∀j:Nat,(T.nodes[j]?).map (·.A)=(S.nodes[j]?).map (·.A)
theorem SameA.refl (S:Sys):SameA S S:=fun _=>rfl
theorem SameA.trans {S T R:Sys} (h:SameA S T) (k:SameA T R):SameA S R:=fun j=>(k j).trans (h j)
theorem SameA.nodes {S T:Sys} (h:T.nodes=S.nodes):SameA S T:=fun j=>by rw [h]
theorem SameA.sends (S:Sys) (line:Int) (l:List Snd):SameA S (S.sends line l):=fun j=>by
 rw [Qal]
 cases S.nodes[j]? <;>rfl
theorem SameA.setN {S:Sys} {i:Nat} {N N':Nd} (h:S.nodes[i]? =some N) (e:N'.A=N.A):SameA S (S.setN i N'):=fun j=>by
 by_cases ej:j=i
 ·subst ej;rw [Xw h,h];exact congrArg some e
 ·show ((S.nodes.set i N')[j]?).map _=_
  rw [List.getElem?_set_ne (fun a=>ej a.symm)]
theorem ZbE (S:Sys) (i:Nat) (e:Ent):(S.write i e).1.nodes=S.nodes:=by unfold Sys.write;split<;>rfl
theorem SameA.up (S:Sys) (c:Int):SameA S (S.up c).1:=by
 unfold Sys.up
 split
 ·exact .refl _
 ·rename_i i N ha
  obtain ⟨_,hN⟩:=Sys.at_some ha
  split
  ·exact .refl _
  ·split
   ·exact .refl _
   ·split
    ·exact .refl _
    ·split
     ·exact .nodes (Zb2 _ _ _)
     ·refine SameA.trans ?_ (SameA.sends _ _ _)
      refine (SameA.nodes (Zb2 S _ _)).trans (SameA.setN (N:=N) (by rw [Zb2];exact hN) rfl)
theorem SameA.answer (S:Sys) (c:Int):SameA S (S.answer c).1:=by
 unfold Sys.answer
 split
 ·exact .refl _
 ·rename_i i N ha
  obtain ⟨_,hN⟩:=Sys.at_some ha
  split
  ·exact .refl _
  ·split
   ·exact .refl _
   ·split
    ·exact SameA.setN hN rfl
    ·refine SameA.trans ?_ (SameA.sends _ _ _)
     intro j
     refine SameA.setN hN ?_ j
     rfl
theorem SameA.push (S:Sys) (l:Int):SameA S (S.push l).1:=by
 unfold Sys.push
 split
 ·exact .refl _
 ·split
  ·exact .refl _
  ·split
   ·exact .nodes (ZbE _ _ _)
   ·split
    ·exact .nodes (ZbE _ _ _)
    ·exact (SameA.nodes (ZbE S _ _)).trans (SameA.sends _ _ _)
theorem SameA.drain (S:Sys) (l:Int):SameA S (S.drain l).1:=by
 unfold Sys.drain
 split<;>exact .nodes rfl
theorem SameA.wr (S:Sys) (l:Nat):SameA S (S.wr l):=(SameA.push _ _).trans (SameA.drain _ _)
def AtN (S:Sys) (i:Nat) (P:Arr→Prop):Prop:= ∃N,S.nodes[i]? =some N∧P N.A
theorem AtN.same {S T:Sys} {i:Nat} {P:Arr→Prop} (h:AtN S i P) (k:SameA S T):AtN T i P:=by
 obtain ⟨N,hN,hp⟩:=h
 have:=k i
 rw [hN] at this
 cases e:T.nodes[i]? with
 | none=>rw [e] at this;cases this
 | some N'=>
  rw [e] at this
  have ha:N'.A=N.A:=Option.some.inj this
  exact ⟨N',e,by rw [ha];exact hp⟩
theorem Xcz {E:Ent} {V:Ln} {i s:Int} {d:Ln} (h:Base E V i s d [] []) (hb:E.busy=0):0≤s∧s≤3:=by
 cases h<;>first|(constructor<;>decide)|omega
def Kd (k s:Int):Prop:=(k=8∧s=4)∨(k=9∧s=4)∨(k=10∧(s=5∨s=6))∨(k=11∧7≤s∧s≤9)
theorem Xf7 {E:Ent} {V:Ln} {i s:Int} {d:Ln} {m:Ms} (h:Base E V i s d [] [m]):Kd m.kind s:=by
 generalize hL:[m]=L at h
 generalize hU:([]:List Ms)=U at h
 unfold Kd
 cases h<;>first|(cases hL;done)|(cases hU;done)|(cases hL;omega)
structure Zs (Z:Int→Prop):Prop where
 hi: ∀s,Z s→4≤s
 ask: ∀s kd,Z s→kd=12∨kd=13→turn kd s≠ -1→Z (turn kd s)
def Wt (i l s0 w0:Nat) (Z:Int→Prop) (S:Sys):Prop:=AtN S i fun A=>A.sets=s0∧A.ways=w0∧Z (A.slot (l:Nat)).state
def Told (i l s0 w0:Nat) (Z:Int→Prop) (S:Sys):Prop:=AtN S i fun A=> ∃B m,A=(Arr.hear B m).2.1∧m.line=(l:Nat)∧B.ok∧B.wf∧B.used<100000∧B.sets=s0∧B.ways=w0∧Jy m=true∧JaU m.kind=true∧Z (B.slot (l:Nat)).state∧Kd m.kind (B.slot (l:Nat)).state
theorem QbV (A:Arr) (l s:Int) (d:Ln):(A.set l s d).2.sets=A.sets∧(A.set l s d).2.ways=A.ways:=by
 unfold Arr.set
 split
 ·exact ⟨rfl,rfl⟩
 ·split<;>exact ⟨rfl,rfl⟩
theorem Je7 (A:Arr) (l:Int):(A.drop l).sets=A.sets∧(A.drop l).ways=A.ways:=by
 unfold Arr.drop
 split<;>exact ⟨rfl,rfl⟩
theorem Xdu (A:Arr) (m:Ms):(A.hear m).2.1.sets=A.sets∧(A.hear m).2.1.ways=A.ways:=by
 unfold Arr.hear
 split
 ·exact ⟨rfl,rfl⟩
 ·split
  ·exact ⟨rfl,rfl⟩
  ·split
   ·exact ⟨rfl,rfl⟩
   ·split
    ·exact Je7 _ _
    ·exact QbV _ _ _ _
theorem Qc5 {S:Sys} {j:Nat} {N:Nd} (hN:S.nodes[j]? =some N) {m:Ms} {r:List Ms} (hd:N.dn=m::r):(S.hear (j:Nat)).1=S.setN j { N with A:=(N.A.hear m).2.1,dn:=r,ans:=Xj N.ans (N.A.hear m).1 }:=by
 unfold Sys.hear;rw [Sys.at_of hN];simp only;rw [hd]
theorem Jdk {l i s0 w0:Nat} {Vs:Nat→Ln} {Z:Int→Prop} (hz:Zs Z):Keep l i Vs (Wt i l s0 w0 Z) (Told i l s0 w0 Z) where
 up:=fun _ _ _ h=>h.same (SameA.up _ _)
 ans:=fun _ _ _ _ h=>h.same (SameA.answer _ _)
 wr:=fun _ _ _ _ h=>h.same (SameA.wr _ _)
 hear:=by
  intro S X Y j k h p hk hx ht
  obtain ⟨N0,hN0,hs0,hw0,hZ⟩:=ht
  obtain ⟨E,hE,hb,hnz,hX,hW⟩:=h.e
  obtain ⟨N,hN⟩:=ZaY (h.lt j (.inl hx))
  obtain ⟨a,b,c⟩:=h.qs.nd j N hN
  obtain ⟨m,hd,hm⟩:=b.one hx
  have ha:=c.nil (h.xy j hx)
  obtain ⟨_,hkd,hst,hne⟩:=ZcO p hk hN hE hd ha hm (hX j (.inl hx))
  rw [Qc5 hN hd]
  by_cases e:i=j
  ·subst e
   obtain rfl:N=N0:=by rw [hN] at hN0;exact Option.some.inj hN0
   refine ⟨_,Xw hN,(Xdu _ _).1.trans hs0,(Xdu _ _).2.trans hw0,?_⟩
   show Z ((N.A.hear m).2.1.slot (l:Nat)).state
   rw [hst]
   exact hz.ask _ _ hZ hkd hne
  ·refine ⟨N0,?_,hs0,hw0,hZ⟩
   show (S.nodes.set j _)[i]? =some N0
   rw [List.getElem?_set_ne (fun a=>e a.symm)];exact hN0
 told:=by
  intro S i0 k h p hk ht
  obtain ⟨N0,hN0,hs0,hw0,hZ⟩:=ht
  obtain ⟨N,hN⟩:=ZaY h.lt
  obtain ⟨a,b,c⟩:=h.qs.nd i0 N hN
  obtain ⟨m,hd,hm⟩:=b.one rfl
  have hml:0≤m.line∧m.line<S.c.lines:=(p.wf.nd i0 N hN).dn.2 m (by rw [hd];simp)
  have hdl:=p.wf.dir
  obtain ⟨E,hE⟩: ∃E,S.dir[l]? =some E:=⟨_,List.getElem?_eq_getElem (by omega)⟩
  have hb:=h.bz E hE
  have h4:=hz.hi _ hZ
  have cv:=p.at hN0 hE
  obtain ⟨a0,b0,c0⟩:=h.qs.nd i N0 hN0
  rw [a0.nil id] at cv
  by_cases e:i=i0
  ·subst e
   obtain rfl:N=N0:=by rw [hN] at hN0;exact Option.some.inj hN0
   rw [hd] at cv
   have hn:=p.wf.nd i N hN
   obtain ⟨hg,htl⟩:=(p.qu i N hN).dn m (by rw [hd];simp)
   rw [Qc5 hN hd]
   by_cases h14:m.kind=14
   ·exfalso
    rw [Jbq,if_neg (fun a=>a.2 h14)] at cv
    have:=(Xcz (Zay cv hb).2.1 hb).2
    omega
   ·rw [ZdO hm h14] at cv
    have kd:=Xf7 (Zay cv hb).2.1
    exact ⟨_,Xw hN,N.A,m,rfl,hm,hn.gd.ok,hn.gd.wf,by have:=hn.gd.used;omega,hs0,hw0,hg,htl,hZ,kd⟩
  ·exfalso
   rw [b0.nil e] at cv
   have:=(Xcz (Zay cv hb).2.1 hb).2
   omega
def Z5 (s:Int):Prop:=s=5∨s=6
def Z4 (s:Int):Prop:=s=4
def Z7 (s:Int):Prop:=7≤s∧s≤9
theorem z5:Zs Z5:=⟨fun s h=>by rcases h with h|h<;>omega,fun s kd h hk hne=>by
 rcases h with rfl|rfl<;>rcases hk with rfl|rfl<;>first|exact absurd rfl hne|exact .inl rfl⟩
theorem z4:Zs Z4:=⟨fun s h=>by unfold Z4 at h;omega,fun s kd h hk hne=>by
 obtain rfl:s=4:=h
 rcases hk with rfl|rfl<;>exact absurd rfl hne⟩
theorem z7:Zs Z7:=⟨fun s h=>by unfold Z7 at h;omega,fun s kd h hk hne=>by
 have h3:s=7∨s=8∨s=9:=by unfold Z7 at h;omega
 unfold Z7
 rcases h3 with rfl|rfl|rfl<;>rcases hk with rfl|rfl<;>first|exact absurd rfl hne|(constructor<;>decide)⟩
theorem Zgz {i l s0 w0:Nat} {S:Sys} (h:Told i l s0 w0 Z5 S):AtN S i fun A=>(A.slot (l:Nat)).state=2:=by
 obtain ⟨N,hN,B,m,rfl',hm,hok,hwf,hu,_,_,hg,ht,hz,hk⟩:=h
 refine ⟨N,hN,?_⟩
 rw [rfl']
 have k10:m.kind=10:=by
  unfold Kd at hk;unfold Z5 at hz;omega
 have t2:turn m.kind (B.slot m.line).state=2:=by rw [k10,hm];exact QdJ hz
 rw [←hm]
 exact ((XaB hok hwf hu hg ht).2 2 t2 (by decide) (by decide) (by rw [hm];unfold Z5 at hz;omega)).2.2.2.1
theorem Xgy {i l s0 w0:Nat} {S:Sys} (h:Told i l s0 w0 Z4 S):AtN S i fun A=>(A.slot (l:Nat)).state=1∨(A.slot (l:Nat)).state=2:=by
 obtain ⟨N,hN,B,m,rfl',hm,hok,hwf,hu,_,_,hg,ht,hz,hk⟩:=h
 refine ⟨N,hN,?_⟩
 rw [rfl']
 unfold Z4 at hz
 have k8:m.kind=8∨m.kind=9:=by
  unfold Kd at hk;omega
 rw [←hm] at hz ⊢
 rcases k8 with k8|k8
 ·exact .inl ((XaB hok hwf hu hg ht).2 1 (by rw [k8,hz];rfl) (by decide) (by decide) (by omega)).2.2.2.1
 ·exact .inr ((XaB hok hwf hu hg ht).2 2 (by rw [k8,hz];rfl) (by decide) (by decide) (by omega)).2.2.2.1
theorem ZgA {i l s0 w0:Nat} {S:Sys} (h:Told i l s0 w0 Z7 S):AtN S i fun A=> ∃B:Arr,A=B.drop (l:Nat)∧B.ok∧B.wf∧B.sets=s0∧B.ways=w0∧(B.slot (l:Nat)).state≠0:=by
 obtain ⟨N,hN,B,m,rfl',hm,hok,hwf,hu,hs,hw,hg,ht,hz,hk⟩:=h
 have hz':7≤(B.slot (l:Nat)).state∧(B.slot (l:Nat)).state≤9:=hz
 have k11:m.kind=11:=by
  unfold Kd at hk;omega
 refine ⟨N,hN,B,?_,hok,hwf,hs,hw,by omega⟩
 rw [rfl']
 have t0:turn m.kind (B.slot m.line).state=0:=by rw [k11,hm];exact Je8 (by omega)
 unfold Arr.hear
 rw [if_neg (by rw [hg,ht];simp),if_neg (by omega),if_neg (by omega),if_pos t0,hm]
def Fl (E:Ent):Prop:=((E.busy=4∨E.busy=5)∧(0≤E.owner→Js E.wait E.owner=true))∨(E.busy=0∧E.owner<0∧E.dirty=false)
def Tf (i l:Nat) (S:Sys):Prop:= ∃N,S.nodes[i]? =some N∧((N.up=[]∧ ∃E,S.dir[l]? =some E∧Fl E)∨ ∃m,N.up=[m]∧(m.kind=4∨m.kind=5))
def XfN (l:Nat) (S:Sys):Prop:= ∃E,S.dir[l]? =some E∧E.owner<0∧E.dirty=false
theorem Xd2 (S:Sys) (line:Int) (l:List Snd) (j:Nat):((S.sends line l).nodes[j]?).map (·.up)=(S.nodes[j]?).map (·.up):=by
 rw [Qal]
 cases S.nodes[j]? <;>rfl
theorem Xf2 {S T:Sys} {j:Nat} {N:Nd} (h:(T.nodes[j]?).map (·.up)=(S.nodes[j]?).map (·.up)) (hN:S.nodes[j]? =some N): ∃N',T.nodes[j]? =some N'∧N'.up=N.up:=by
 rw [hN] at h
 cases e:T.nodes[j]? with
 | none=>rw [e] at h;cases h
 | some N'=>rw [e] at h;exact ⟨N',rfl,Option.some.inj h⟩
theorem Tf.up0 {i l:Nat} {S:Sys} (h:Tf i l S) {U:Nat→Prop} {X Y:Nat→Prop} (hq:S.Qs l U X Y) (hu: ¬U i): ∃N E,S.nodes[i]? =some N∧N.up=[]∧S.dir[l]? =some E∧Fl E:=by
 obtain ⟨N,hN,⟨h0,E,hE,hf⟩|⟨m,hm,_⟩⟩:=h
 ·exact ⟨N,E,hN,h0,hE,hf⟩
 ·have:=(hq.nd i N hN).1.nil hu
  rw [hm] at this;cases this
theorem XeA {l i:Nat} {Vs:Nat→Ln}:Keep l i Vs (fun S=>S.q=[]∧Tf i l S) (XfN l) where
 up:=by
  intro S k h p hk ⟨hq,ht⟩
  refine ⟨(XgD _ _).trans hq,?_⟩
  obtain ⟨N,m,E,hN,hu,hE,hm,e,hs,hb,hkd,ei⟩:=Xgc h p
  have hdir: ∀E' out,(((((S.setE l (S.got l E)).setN i { N with up:=[] }).setE l E').sends (l:Nat) out)).dir[l]? =some E':=fun E' out=>by
   rw [(JL _ _ _).1]
   show ((S.dir.set l _).set l E')[l]? =_
   rw [List.getElem?_set_self (by rw [List.length_set];exact Ze hE)]
  obtain ⟨Ni,hNi,hT⟩:=ht
  obtain rfl:N=Ni:=by rw [hN] at hNi;exact Option.some.inj hNi
  rcases hT with ⟨a,_⟩|⟨m',hm',hk45⟩
  ·rw [hu] at a;cases a
  ·rw [hu] at hm';cases hm'
   obtain ⟨N',hN',hu'⟩:=Xf2 (Xd2 (((S.setE l (S.got l E)).setN i { N with up:=[] }).setE l (JaB (S.got l E) (i:Nat) m).1) (l:Nat) (JaB (S.got l E) (i:Nat) m).2.1 i) (N:={ N with up:=[] }) (Xw (S:=S.setE l (S.got l E)) hN)
   rw [e]
   refine ⟨N',hN',.inl ⟨hu',_,hdir _ _,?_⟩⟩
   have hsh:=Qcu hb m.line (i:Nat) hkd
   have ge:=Xbd ei
   rw [hs] at ge ⊢
   simp only at ge ⊢
   generalize (Mov.asked ⟨S.got l E,m.line,[]⟩ (i:Nat) m).e=E' at*
   rcases hsh with ⟨_,_,_,h3⟩|⟨bb,cc,y,hbb,rfl,_⟩
   ·omega
   ·refine .inl ⟨by show bb=4∨bb=5;omega,fun h0=> ?_⟩
    have h0':0≤(S.got l E).owner:=h0
    have h8:(S.got l E).owner<8:=ge.hi
    show Js cc (S.got l E).owner=true
    rcases hbb with ⟨_,hb2⟩|⟨_,rfl⟩|⟨_,rfl⟩
    ·omega
    ·rw [ZV];exact decide_eq_true ⟨rfl,h0',h8⟩
    ·rw [ZaF,Bool.or_eq_true];exact .inr (decide_eq_true ⟨rfl,h0',h8⟩)
 ans:=by
  intro S X Y j k h p hk hy ⟨hq,ht⟩
  refine ⟨(Xea _ _).trans hq,?_⟩
  obtain ⟨Ni,E,hNi,hu,hE,hf⟩:=ht.up0 h.qs id
  obtain ⟨N,m,E',hN,ha,hE',hm,e,hs⟩:=Jdn h p hy
  rw [hE] at hE';cases hE'
  obtain ⟨E'',hE'',hb,_⟩:=h.e
  rw [hE] at hE'';cases hE''
  obtain ⟨l1,l2,l3,l4,l5,l6,l7,l8⟩:=Jb1 E (j:Nat) m
  have hfb:(E.busy=4∨E.busy=5)∧(0≤E.owner→Js E.wait E.owner=true):=by
   rcases hf with hf|hf
   ·exact hf
   ·exact absurd hf.1 hb
  have hE2:(Zh E (j:Nat) m).1=E.lose (j:Nat) m:=by
   rw [hs]
   split
   ·rfl
   ·rw [XcQ (by rw [l2];exact hfb.1)]
  have h1: ∃N1,(S.setN j { N with ans:=[] }).nodes[i]? =some N1∧N1.up=[]:=by
   by_cases eij:i=j
   ·subst eij
    obtain rfl:N=Ni:=by rw [hN] at hNi;exact Option.some.inj hNi
    exact ⟨_,Xw hN,hu⟩
   ·refine ⟨Ni,?_,hu⟩
    show (S.nodes.set j _)[i]? =_
    rw [List.getElem?_set_ne (fun a=>eij a.symm)];exact hNi
  obtain ⟨N1,hN1,hu1⟩:=h1
  obtain ⟨N',hN',hu'⟩:=Xf2 (Xd2 ((S.setN j { N with ans:=[] }).setE l (Zh E (j:Nat) m).1) (l:Nat) (Zh E (j:Nat) m).2.1 i) hN1
  rw [e]
  refine ⟨N',hN',.inl ⟨hu'.trans hu1,E.lose (j:Nat) m,?_,.inl ⟨by rw [l2];exact hfb.1,fun h0=> ?_⟩⟩⟩
  ·rw [(JL _ _ _).1,hE2]
   exact List.getElem?_set_self (Ze hE)
  ·rw [l5] at h0 ⊢
   by_cases ho:E.owner=(j:Nat)
   ·rw [if_pos ho] at h0;omega
   ·rw [if_neg ho] at h0 ⊢
    rw [l4,J5,hfb.2 h0]
    simpa using fun a=>ho a.symm
 hear:=by
  intro S X Y j k h p hk hx ⟨hq,ht⟩
  refine ⟨(JfK _ _).trans hq,?_⟩
  obtain ⟨Ni,E,hNi,hu,hE,hf⟩:=ht.up0 h.qs id
  obtain ⟨N,hN⟩:=ZaY (h.lt j (.inl hx))
  obtain ⟨m,hd,hm⟩:=(h.qs.nd j N hN).2.1.one hx
  rw [Qc5 hN hd]
  by_cases eij:i=j
  ·subst eij
   obtain rfl:N=Ni:=by rw [hN] at hNi;exact Option.some.inj hNi
   exact ⟨_,Xw hN,.inl ⟨hu,E,hE,hf⟩⟩
  ·refine ⟨Ni,?_,.inl ⟨hu,E,hE,hf⟩⟩
   show (S.nodes.set j _)[i]? =_
   rw [List.getElem?_set_ne (fun a=>eij a.symm)];exact hNi
 wr:=by
  intro S k h hq p hk ⟨_,ht⟩
  obtain ⟨Ni,E,hNi,hu,hE,hf⟩:=ht.up0 h.qs id
  obtain ⟨_,_,hq',⟨E1,E',hE1,hE',ho,hd,hb'⟩,hup⟩:=QfO h hq p hk
  rw [hE] at hE1;cases hE1
  obtain ⟨E2,hE2,hb2,hw2⟩:=h.e
  rw [hE] at hE2;cases hE2
  obtain ⟨N',hN',hu'⟩:=Xf2 (hup i) hNi
  refine ⟨hq',N',hN',.inl ⟨hu'.trans hu,E',hE',.inr ⟨hb',?_,hd⟩⟩⟩
  rw [ho]
  rcases hf with hf|hf
  ·by_cases h0:0≤E.owner
   ·have:=hf.2 h0
    rw [nz_no.1 hw2] at this;cases this
   ·omega
  ·exact hf.2.1
 told:=by
  intro S i0 k h p hk ⟨hq,ht⟩
  obtain ⟨Ni,E,hNi,hu,hE,hf⟩:=ht.up0 h.qs id
  have hb:=h.bz E hE
  obtain ⟨N,hN⟩:=ZaY h.lt
  obtain ⟨m,hd,hm⟩:=(h.qs.nd i0 N hN).2.1.one rfl
  rw [Qc5 hN hd]
  rcases hf with hf|hf
  ·omega
  ·exact ⟨E,hE,hf.2.1,hf.2.2⟩
end Go.Proofs.YtmchcjaomcdbmaaGreat.Gen
namespace Go.Proofs.YtmchcjaomcdbmaaGreat.Gen
open Go Go.Proofs.YtmchcjaomcdbmaaGreat.Abs Go.RowKit
section
variable {S:Sys} {k i l:Nat} {Vs:Nat→Ln} {N:Nd}
theorem Ze2 (h:S.calm) (p:S.pr 1 k Vs) (hN:S.nodes[i]? =some N) (hl:l<S.dir.length):0≤(N.A.slot (l:Nat)).state∧(N.A.slot (l:Nat)).state≤3:=by
 obtain ⟨E,hE⟩: ∃E,S.dir[l]? =some E:=⟨_,List.getElem?_eq_getElem hl⟩
 have cv:=p.at hN hE
 obtain ⟨a,b,c⟩:=h.nd i N hN
 rw [a,b,c] at cv
 exact Xcz (Zay cv (h.bz l E hE)).2.1 (h.bz l E hE)
theorem ZdB (h:S.calm) (p:S.pr 1 k Vs) (hN:S.nodes[i]? =some N) {s:St} (hs:s∈N.A.l):s.state=0∨(s.rest∧0≤s.line∧s.line<S.c.lines∧Has N.A s.line s):=by
 by_cases h0:s.state=0
 ·exact .inl h0
 ·have hn:=p.wf.nd i N hN
  obtain ⟨idx,hidx⟩:=List.getElem?_of_mem hs
  have hh:Has N.A s.line s:=⟨idx,hidx,h0,rfl⟩
  have hlin:=hn.lin s hs
  have hd:=p.wf.dir
  have:=Ze2 h p hN (l:=s.line.toNat) (by omega)
  rw [show ((s.line.toNat:Nat):Int)=s.line by omega,JaL hn.gd.ok hn.gd.wf hh] at this
  exact .inr ⟨⟨by omega,this.2⟩,hlin.1,hlin.2,hh⟩
theorem Xfd (h:S.calm) (p:S.pr 1 k Vs) (hN:S.nodes[i]? =some N):N.A.idle=true:=by
 unfold Arr.idle
 rw [Option.isNone_iff_eq_none,List.findIdx?_eq_none_iff]
 intro s hs
 have hs':s∈N.A.l:=(List.mem_filter.1 (show s∈N.A.l.filter _ from hs)).1
 unfold ZeC
 rcases ZdB h p hN hs' with h0|⟨hr,_⟩
 ·rw [h0];rfl
 ·have a:=hr.1
  have b:=hr.2
  rw [decide_eq_true (by omega)];rfl
theorem Zcr: ∀(cs:List St) (v last:Int),(∀s∈cs,s.state=0∨(s.rest∧0≤s.line))→(cs≠[]∨0≤v)→(ZF cs v last).1=true∨0≤(ZF cs v last).2
 | [],v,last,_,h=> .inr (by rcases h with h|h;exact absurd rfl h;exact h)
 | s::cs,v,last,h,_=>by
  unfold ZF
  split
  ·exact .inl rfl
  ·rename_i h0
   rcases h s (List.mem_cons_self ..) with e|⟨hr,hl⟩
   ·exact absurd e h0
   ·split
    ·exact Zcr cs _ _ (fun x hx=>h x (List.mem_cons_of_mem _ hx)) (.inr hl)
    ·rename_i hno
     refine Zcr cs _ _ (fun x hx=>h x (List.mem_cons_of_mem _ hx)) (.inr ?_)
     have a:=hr.1
     have b:=hr.2
     by_cases hv:v<0
     ·exact absurd ⟨a,b,.inl hv⟩ hno
     ·omega
theorem Qdl: ∀(cs:List St) (v last:Int),(∃s∈cs,s.state=0)→(ZF cs v last).1=true
 | [],_,_,h=>by obtain ⟨s,hs,_⟩:=h;cases hs
 | s::cs,v,last,h=>by
  unfold ZF
  split
  ·rfl
  ·rename_i h0
   obtain ⟨t,ht,h1⟩:=h
   have ht':t∈cs:=by
    rcases List.mem_cons.1 ht with rfl|ht
    ·exact absurd h1 h0
    ·exact ht
   split<;>exact Qdl cs _ _ ⟨t,ht',h1⟩
theorem Xde {A:Arr} {line:Int} {s:St} (h:s∈A.part line): ∃idx:Nat,A.l[idx]? =some s∧A.from line≤idx∧idx<A.from line+A.ways:=by
 obtain ⟨j,hj⟩:=List.getElem?_of_mem h
 unfold Arr.part at hj
 have hj2:j<A.ways:=by
  have:=Ze hj
  rw [List.length_take] at this
  omega
 rw [List.getElem?_take,if_pos hj2,List.getElem?_drop] at hj
 exact ⟨A.from line+j,hj,by omega,by omega⟩
theorem ZfV {A:Arr} (hok:A.ok) (hw:A.wf) {line:Int} {s:St} (h:s∈A.part line) (h0:s.state≠0):A.from s.line=A.from line:=by
 obtain ⟨idx,hi,h1,h2⟩:=Xde h
 obtain ⟨_,p1,p2,_⟩:=hw.place idx s hi h0
 have hw1:=hok.2.1
 unfold Arr.from at*
 generalize (s.line%A.sets).toNat=x at*
 generalize (line%A.sets).toNat=y at*
 have ex:idx/A.ways=x:=Nat.div_eq_of_lt_le p1 (by rw [Nat.add_mul];omega)
 have ey:idx/A.ways=y:=Nat.div_eq_of_lt_le h1 (by rw [Nat.add_mul];omega)
 rw [←ex,←ey]
theorem XfT {A:Arr} (hok:A.ok) {line:Int} (hl:0≤line):A.part line≠[]:=by
 obtain ⟨a1,a2,a3,a4,_⟩:=hok
 have hs:(0:Int)<A.sets:=by omega
 have hm:(line%A.sets).toNat<A.sets:=by have:=Int.emod_lt_of_pos line hs;have:=Int.emod_nonneg line (Int.ne_of_gt hs);omega
 have hmul:((line%A.sets).toNat+1)*A.ways≤A.sets*A.ways:=Nat.mul_le_mul_right _ hm
 intro e
 have hlen:(A.part line).length=0:=by rw [e];rfl
 unfold Arr.part Arr.from at hlen
 rw [List.length_take,List.length_drop,a4] at hlen
 rw [Nat.add_mul] at hmul
 omega
theorem XeF {B:Arr} (hok:B.ok) {vl line:Int} (h0:(B.slot vl).state≠0) (hf:B.from vl=B.from line) (hl:0≤line):((B.drop vl).room line).1=true:=by
 obtain ⟨kk,hk,_⟩:=QdE h0
 have hd:B.drop vl=B.put vl kk Z6:=by unfold Arr.drop;rw [hk]
 rw [hd]
 unfold Arr.room
 rw [if_neg (by omega)]
 refine Qdl _ _ _ ⟨Z6,?_,rfl⟩
 have hkl:kk<(B.part vl).length:=by
  unfold Arr.at at hk
  split at hk
  ·cases hk
  ·obtain ⟨h1,_⟩:=List.findIdx?_eq_some_iff_getElem.1 hk
   exact h1
 unfold Arr.part at hkl
 rw [List.length_take,List.length_drop] at hkl
 have e:(B.put vl kk Z6).part line=((B.l.set (B.from vl+kk) Z6).drop (B.from line)).take B.ways:=rfl
 rw [e,←hf]
 refine List.mem_of_getElem? (i:=kk) ?_
 rw [List.getElem?_take,if_pos (by omega),List.getElem?_drop,List.getElem?_set_self (by omega)]
theorem JfO (h:S.calm) (hN:S.nodes[i]? =some N) {A':Arr} {m:Ms} (hm:m.line=(l:Nat)) (hg:Jy m=true):(S.setN i { N with A:=A',up:=Xj N.up [m] }).P0 l i:=by
 have hq:=h.qs l
 obtain ⟨a,b,c⟩:=h.nd i N hN
 have e:Xj N.up [m]=[m]:=by
  rw [a]
  show (XW [] m).1=_
  rw [Xaz hg (by simp)];rfl
 rw [e]
 obtain ⟨qa,qb,qc⟩:=hq.nd i N hN
 refine ⟨hq.setN hN ⟨.yes rfl hm,qb,qc⟩ (fun j hj=>⟨⟨fun a=>absurd a hj,fun a=>a.elim⟩,Iff.rfl,Iff.rfl⟩),h.bz l,?_⟩
 show i<(S.nodes.set i _).length
 rw [List.length_set];exact Ze hN
def JfJ (S S':Sys) (i l:Nat) (N:Nd) (Z:Int→Prop):Prop:=
 (S'.P0 l i∧Wt i l N.A.sets N.A.ways Z S')∨(∃vl:Nat,S'.P0 vl i∧vl<S.dir.length∧Wt i vl N.A.sets N.A.ways Z7 S'∧N.A.from (vl:Nat)=N.A.from (l:Nat)∧(N.A.room (l:Nat)).1=false)
theorem Xgq (h:S.calm) (p:S.pr 1 k Vs) (hk:k<100000) (hN:S.nodes[i]? =some N) (hl:l<S.dir.length) {state kind:Int} {d:Ln} {Z:Int→Prop} (hz:kind=1∧Z=Z4∨kind=2∧Z=Z5)
  (hc:(kind=1∧state=4∧((N.A.slot (l:Nat)).state≠1∧(N.A.slot (l:Nat)).state≠2∧(N.A.slot (l:Nat)).state≠3))∨(kind=2∧state=5∧((N.A.slot (l:Nat)).state≠1∧(N.A.slot (l:Nat)).state≠2∧(N.A.slot (l:Nat)).state≠3))∨(kind=2∧state=6∧(N.A.slot (l:Nat)).state=1∧d=(N.A.slot (l:Nat)).data)):
  JfJ S (S.setN i { N with A:=(N.A.ask (l:Nat) state kind d).2,up:=Xj N.up (N.A.ask (l:Nat) state kind d).1 }) i l N Z:=by
 have hn:=p.wf.nd i N hN
 have hok:=hn.gd.ok
 have hwf:=hn.gd.wf
 have hu:N.A.used<100000:=by have:=hn.gd.used;omega
 have hdl:=p.wf.dir
 have hlines:=p.wf.c.lines
 have hidle:=Xfd h p hN
 by_cases hr:state≠6∧(N.A.room (l:Nat)).1=false
 ·right
  rcases Xb0 hok hwf (line:=(l:Nat)) (by omega) with e|e|⟨s,hs,hrest,e,h0,_,hh⟩
  ·rw [e] at hr;exact absurd hr.2 (by decide)
  ·exfalso
   have:=Zcr (N.A.part (l:Nat)) (-1) 0 (fun s hs=>by
    obtain ⟨idx,hi,_⟩:=Xde hs
    rcases ZdB h p hN (List.mem_of_getElem? hi) with a|⟨a,b,_⟩
    ·exact .inl a
    ·exact .inr ⟨a,b⟩) (.inl (XfT hok (by omega)))
   have e2:ZF (N.A.part (l:Nat)) (-1) 0=(false,-1):=by
    have:=e
    unfold Arr.room at this
    rw [if_neg (by omega)] at this
    exact this
   rw [e2] at this
   rcases this with a|a
   ·cases a
   ·exact absurd a (by decide)
  ·have hsl:=JaL hok hwf hh
   have ea:N.A.ask (l:Nat) state kind d=N.A.out s:=by
    unfold Arr.ask
    rw [if_neg (by rw [hidle];decide),if_pos hr,e,if_neg (by show ¬s.line<0;omega)]
    show N.A.out (N.A.slot s.line)=_
    rw [hsl]
   obtain ⟨idx,hi,_⟩:=Xde hs
   have hs0:s.state≠0:=by have:=hrest.1;omega
   have hmem:=List.mem_of_getElem? hi
   have hlin:=hn.lin s hmem
   obtain ⟨vl,hvl⟩: ∃vl:Nat,s.line=(vl:Nat):=⟨s.line.toNat,by omega⟩
   rw [ea]
   have hst:7≤((N.A.out s).2.slot s.line).state∧((N.A.out s).2.slot s.line).state≤9:=by
    have a:=Xdo hok hwf hu (line:=s.line) (by rw [hsl];exact hrest.1) (by rw [hsl];exact hrest.2)
    rw [hsl] at a
    generalize hm:(N.A.out s).1=ms at a
    have hm2:ms=[XdB s]:=hm.symm
    cases a with
    | same _=>cases hm2
    | ask0 h1 _ _ _=>simp [XdB] at hm2;omega
    | ask1 _ _ _ _=>simp [XdB] at hm2
    | outc h1 h2 _=>
     simp only [XdB,List.cons.injEq,Ms.mk.injEq,and_true,true_and] at hm2
     rw [←hm2.1];omega
    | outd h1 h2 _ _=>
     simp only [XdB,List.cons.injEq,Ms.mk.injEq,and_true,true_and] at hm2
     rw [←hm2.1];omega
   refine ⟨vl,JfO h hN (m:=XdB s) hvl ?_,by omega,?_,by rw [←hvl];exact ZfV hok hwf hs hs0,hr.2⟩
   ·unfold Jy XdB
    simp only
    rw [decide_eq_true (show 1≤(3:Int)∧(3:Int)≤14∧0≤s.line∧s.line<64 by omega)]
    by_cases h3:s.state=3
    ·simp [h3]
    ·simp [h3]
   ·refine ⟨_,Xw hN,(QbV _ _ _ _).1,(QbV _ _ _ _).2,?_⟩
    show Z7 ((N.A.out s).2.slot (vl:Nat)).state
    rw [←hvl];exact hst
 ·left
  have ea:N.A.ask (l:Nat) state kind d=([⟨kind,(l:Nat),false,false,zeroL⟩],(N.A.set (l:Nat) state d).2):=by
   unfold Arr.ask
   rw [if_neg (by rw [hidle];decide),if_neg hr]
  have a:=QbQ hok hwf hu (line:=(l:Nat)) (d:=d) (by omega) hc
  rw [ea] at a ⊢
  refine ⟨JfO h hN rfl (Zbq (by omega) (by omega)),_,Xw hN,(QbV _ _ _ _).1,(QbV _ _ _ _).2,?_⟩
  show Z ((N.A.set (l:Nat) state d).2.slot (l:Nat)).state
  generalize hm:([⟨kind,(l:Nat),false,false,zeroL⟩]:List Ms)=ms at a
  cases a with
  | same _=>cases hm
  | ask0 h1 _ h2 _=>
   simp only [List.cons.injEq,Ms.mk.injEq,and_true] at hm
   rw [←hm.2] at h2
   rw [h2]
   rcases hz with ⟨e1,rfl⟩|⟨e1,rfl⟩
   ·unfold Z4;omega
   ·unfold Z5;omega
  | ask1 _ h2 _ _=>
   simp only [List.cons.injEq,Ms.mk.injEq,and_true] at hm
   rw [←hm.2] at h2
   rw [h2]
   rcases hz with ⟨e1,rfl⟩|⟨e1,rfl⟩
   ·omega
   ·exact .inr rfl
  | outc _ _ _=>simp at hm;omega
  | outd _ _ _ _=>simp at hm
end
end Go.Proofs.YtmchcjaomcdbmaaGreat.Gen
namespace Go.Proofs.YtmchcjaomcdbmaaGreat.Gen
open Go Go.Proofs.YtmchcjaomcdbmaaGreat.Abs Go.RowKit
def Rdy (Rd:Int→Prop) (i l:Nat):Nat→Sys→Prop
 | 0,_=>True
 | 1,S=>AtN S i fun A=>Rd (A.slot (l:Nat)).state∨(A.room (l:Nat)).1=true
 | _,S=>AtN S i fun A=>Rd (A.slot (l:Nat)).state
def R2 (s:Int):Prop:=s=2
def R12 (s:Int):Prop:=s=1∨s=2
structure Cm (S:Sys) (k:Nat) (Vs:Nat→Ln):Prop where
 calm:S.calm
 q:S.q=[]
 pr:S.pr 1 k Vs
section
variable {S:Sys} {k i l:Nat} {Vs:Nat→Ln} {N:Nd}
theorem Zdd (S:Sys): ∀n,(Xk n S).c=S.c:=by
 intro n
 induction n generalizing S with
 | zero=>rfl
 | succ n ih=>show (Xk n S.round).c=_;rw [ih,Qco]
theorem Zdj (h:S.calm) (hN:S.nodes[i]? =some N) (A':Arr):(S.setN i { N with A:=A' }).calm:=⟨fun j M hM=>by
 rcases QcL hN hM with ⟨_,rfl⟩|⟨_,hM⟩
 ·exact h.nd i N hN
 ·exact h.nd j M hM,h.bz⟩
theorem Jdv {A B:Arr} (h1:A.sets=B.sets) (h2:A.ways=B.ways) (l:Int):A.from l=B.from l:=by unfold Arr.from;rw [h1,h2]
theorem Zb9 (hq:S.q=[]) {S':Sys} (p':S'.pr 2 (k+1) Vs) (hq':S'.q=[]) (hk:k+201<100000) (hl:l<S.dir.length) (hd:S'.dir.length=S.dir.length) {Z:Int→Prop} {Rd:Int→Prop} (hz:Zs Z) (hzr: ∀{T:Sys} {s0 w0:Nat},Told i l s0 w0 Z T→AtN T i fun A=>Rd (A.slot (l:Nat)).state)
  (ha:JfJ S S' i l N Z):Cm (Xk 6 S') (k+201) Vs∧(AtN (Xk 6 S') i (fun A=>Rd (A.slot (l:Nat)).state)∨((N.A.room (l:Nat)).1=false∧AtN (Xk 6 S') i (fun A=>(A.room (l:Nat)).1=true))):=by
 rcases ha with ⟨h0,hw⟩|⟨vl,h0,hvl,hw,hf,hr⟩
 ·obtain ⟨c,q,t,p⟩:=Qcr (Jdk hz) h0 hq' (h0.qs.small p') hw (by omega) (by omega)
  exact ⟨⟨c,q,p.le (Nat.le_refl 1) (by omega)⟩,.inl (hzr t)⟩
 ·obtain ⟨c,q,t,p⟩:=Qcr (Jdk z7) h0 hq' (h0.qs.small p') hw (by omega) (by omega)
  refine ⟨⟨c,q,p.le (Nat.le_refl 1) (by omega)⟩,.inr ⟨hr,?_⟩⟩
  obtain ⟨M,hM,B,e,hok,_,hs,hwy,h7⟩:=ZgA t
  refine ⟨M,hM,?_⟩
  rw [e]
  exact XeF hok h7 (by rw [Jdv hs hwy,Jdv hs hwy];exact hf) (by omega)
theorem JdD (hl:l<S.dir.length):S.line (l:Nat)=true:=decide_eq_true ⟨by omega,by omega⟩
theorem ZeX (p:S.pr 1 k Vs) (hl:l<S.dir.length) {w:Int} (hw:0≤w∧w<8):isW (l:Nat) w=true:=by
 have:=p.wf.dir
 have:=p.wf.c.lines
 exact decide_eq_true (by omega)
theorem AtN.get {P:Arr→Prop} (h:AtN S i P) (hN:S.nodes[i]? =some N):P N.A:=by
 obtain ⟨M,hM,hp⟩:=h
 rw [hN] at hM;cases hM;exact hp
theorem Zel (h:Cm S k Vs) (hk:k+201<100000) (hN:S.nodes[i]? =some N) (hl:l<S.dir.length) {w v:Int} (hw:0≤w∧w<8) {s:Nat} (hs:s≤2) (hr:Rdy R2 i l s S):
  ((S.store (i:Nat) (l:Nat) w v).2=true∧Cm (S.store (i:Nat) (l:Nat) w v).1 (k+1) (Zfj Vs (l:Nat) w v)∧AtN (S.store (i:Nat) (l:Nat) w v).1 i (fun A=>(A.slot (l:Nat)).state=3∧ ∀l':Int,l'≠(l:Nat)→like (A.slot l') (N.A.slot l')))∨
  (s<2∧(S.store (i:Nat) (l:Nat) w v).2=false∧Cm (Xk 6 (S.store (i:Nat) (l:Nat) w v).1) (k+201) Vs∧Rdy R2 i l (s+1) (Xk 6 (S.store (i:Nat) (l:Nat) w v).1)):=by
 have p:=h.pr
 have hn:=p.wf.nd i N hN
 have hok:=hn.gd.ok
 have hwf:=hn.gd.wf
 have hu:N.A.used<100000:=by have:=hn.gd.used;omega
 have hS:S.store (i:Nat) (l:Nat) w v=(S.setN i { N with A:=(N.A.store (l:Nat) w v).2,up:=Xj N.up (N.A.store (l:Nat) w v).1 },N.A.storeHit (l:Nat) w):=by
  unfold Sys.store;rw [Sys.at_of hN];simp only;rw [if_neg (by rw [JdD hl];decide)]
 have hW:=ZeX p hl hw
 have hW0:=ZeX p hl (w:=0) (by decide)
 have pp:=Xfx p (by decide) (by omega) (i:Nat) (l:Nat) w v
 rw [hS] at pp ⊢
 by_cases hh:N.A.storeHit (l:Nat) w=true
 ·left
  obtain ⟨e,_,e1,_,e3⟩:=Xcl hok hwf hu (v:=v) hh
  rw [if_pos hh] at pp
  have e0:(N.A.store (l:Nat) w v).1=[]:=by rw [e]
  rw [e0] at pp ⊢
  have hc:=Zdj h.calm hN (N.A.store (l:Nat) w v).2
  exact ⟨hh,⟨hc,h.q,(hc.qs 0).small pp⟩,_,Xw hN,e1,e3⟩
 ·right
  rw [if_neg hh] at pp
  have ho:N.A.owns (l:Nat)=false:=by
   unfold Arr.storeHit at hh
   rw [hW,Bool.true_and] at hh
   simpa using hh
  obtain ⟨n2,n3⟩:=Xfi ho
  have hns: ¬(N.A.slot (l:Nat)).state=2:=n2
  have ea: ∃state d,N.A.store (l:Nat) w v=N.A.ask (l:Nat) state 2 d∧((state=5∧((N.A.slot (l:Nat)).state≠1∧(N.A.slot (l:Nat)).state≠2∧(N.A.slot (l:Nat)).state≠3))∨(state=6∧(N.A.slot (l:Nat)).state=1∧d=(N.A.slot (l:Nat)).data)):=by
   unfold Arr.store
   rw [if_neg (by rw [hW];decide),if_pos ho]
   unfold Arr.reach
   rw [if_neg (by rw [hW0,ho];simp)]
   by_cases h1:(N.A.slot (l:Nat)).state=1
   ·rw [if_pos h1];exact ⟨6,_,rfl,.inr ⟨rfl,h1,rfl⟩⟩
   ·rw [if_neg h1];exact ⟨5,_,rfl,.inl ⟨rfl,h1,n2,n3⟩⟩
  obtain ⟨state,d,ea,hc⟩:=ea
  rw [ea] at pp ⊢
  have a2:=Xgq h.calm p (by omega) hN hl (state:=state) (kind:=2) (d:=d) (Z:=Z5) (.inr ⟨rfl,rfl⟩) (by
   rcases hc with hc|hc
   ·exact .inr (.inl ⟨rfl,hc⟩)
   ·exact .inr (.inr ⟨rfl,hc⟩))
  obtain ⟨c1,c2⟩:=Zb9 (Rd:=R2) h.q (S':=S.setN i { N with A:=(N.A.ask (l:Nat) state 2 d).2,up:=Xj N.up (N.A.ask (l:Nat) state 2 d).1 }) pp h.q hk hl rfl z5 (fun t=>Zgz t) a2
  match s,hs,hr with
  | 0,_,_=>exact ⟨by decide,by simpa using hh,c1,by
    rcases c2 with ⟨M,hM,a⟩|⟨_,M,hM,a⟩
    ·exact ⟨M,hM,.inl a⟩
    ·exact ⟨M,hM,.inr a⟩⟩
  | 1,_,hr=>
   refine ⟨by decide,by simpa using hh,c1,?_⟩
   rcases c2 with a|⟨a,_⟩
   ·exact a
   ·rcases (show AtN S i (fun A=>R2 (A.slot (l:Nat)).state∨(A.room (l:Nat)).1=true) from hr).get hN with b|b
    ·exact absurd b hns
    ·rw [a] at b;cases b
  | 2,_,hr=>exact absurd ((show AtN S i (fun A=>R2 (A.slot (l:Nat)).state) from hr).get hN) hns
theorem Xfa (h:Cm S k Vs) (hk:k+201<100000) (hN:S.nodes[i]? =some N) (hl:l<S.dir.length) {w:Int} (hw:0≤w∧w<8) {s:Nat} (hs:s≤2) (hr:Rdy R12 i l s S):
  ((S.load (i:Nat) (l:Nat) w).2.2=true∧Cm (S.load (i:Nat) (l:Nat) w).1 (k+1) Vs∧(S.load (i:Nat) (l:Nat) w).2.1=Ja5 (Vs l) w)∨
  (s<2∧(S.load (i:Nat) (l:Nat) w).2.2=false∧Cm (Xk 6 (S.load (i:Nat) (l:Nat) w).1) (k+201) Vs∧Rdy R12 i l (s+1) (Xk 6 (S.load (i:Nat) (l:Nat) w).1)):=by
 have p:=h.pr
 have hn:=p.wf.nd i N hN
 have hS:S.load (i:Nat) (l:Nat) w=(S.setN i { N with A:=(N.A.load (l:Nat) w).2,up:=Xj N.up (N.A.load (l:Nat) w).1 },N.A.loadV (l:Nat) w,N.A.loadHit (l:Nat) w):=by
  unfold Sys.load;rw [Sys.at_of hN];simp only;rw [if_neg (by rw [JdD hl];decide)]
 have hW:=ZeX p hl hw
 have pp:=ZfY p (by decide) (by omega) (i:Nat) (l:Nat) w
 have hv:(S.load (i:Nat) (l:Nat) w).2.2=true→(S.load (i:Nat) (l:Nat) w).2.1=Ja5 (Vs l) w:=fun hh=>by
  have:=(Jfp p hh).2.2.2
  rw [Int.toNat_natCast] at this
  exact this
 rw [hS] at pp hv ⊢
 by_cases hh:N.A.loadHit (l:Nat) w=true
 ·left
  have e:N.A.load (l:Nat) w=([],N.A.touch (l:Nat)):=by
   unfold Arr.load
   rw [if_neg (by rw [hW];decide),if_pos hh]
  rw [e] at pp ⊢
  have hc:=Zdj h.calm hN (N.A.touch (l:Nat))
  exact ⟨hh,⟨hc,h.q,(hc.qs 0).small pp⟩,hv hh⟩
 ·right
  have hb:Qfn (N.A.slot (l:Nat))=false:=by
   unfold Arr.loadHit at hh
   rw [hW,Bool.true_and] at hh
   simpa using hh
  have hn3:=Ze7 hb
  have hns: ¬R12 (N.A.slot (l:Nat)).state:=fun a=>a.elim hn3.1 hn3.2.1
  have e:N.A.load (l:Nat) w=N.A.ask (l:Nat) 4 1 zeroL:=by
   unfold Arr.load
   rw [if_neg (by rw [hW];decide),if_neg hh]
  rw [e] at pp ⊢
  have a2:=Xgq h.calm p (by omega) hN hl (state:=4) (kind:=1) (d:=zeroL) (Z:=Z4) (.inl ⟨rfl,rfl⟩) (.inl ⟨rfl,rfl,hn3⟩)
  obtain ⟨c1,c2⟩:=Zb9 (Rd:=R12) h.q (S':=S.setN i { N with A:=(N.A.ask (l:Nat) 4 1 zeroL).2,up:=Xj N.up (N.A.ask (l:Nat) 4 1 zeroL).1 }) pp h.q hk hl rfl z4 (fun t=>Xgy t) a2
  match s,hs,hr with
  | 0,_,_=>exact ⟨by decide,by simpa using hh,c1,by
    rcases c2 with ⟨M,hM,a⟩|⟨_,M,hM,a⟩
    ·exact ⟨M,hM,.inl a⟩
    ·exact ⟨M,hM,.inr a⟩⟩
  | 1,_,hr=>
   refine ⟨by decide,by simpa using hh,c1,?_⟩
   rcases c2 with a|⟨a,_⟩
   ·exact a
   ·rcases (show AtN S i (fun A=>R12 (A.slot (l:Nat)).state∨(A.room (l:Nat)).1=true) from hr).get hN with b|b
    ·exact absurd b hns
    ·rw [a] at b;cases b
  | 2,_,hr=>exact absurd ((show AtN S i (fun A=>R12 (A.slot (l:Nat)).state) from hr).get hN) hns
theorem Qeq (h:Cm S k Vs) (hk:k+201<100000) (hN:S.nodes[i]? =some N) (hl:l<S.dir.length) {kind:Int} (hkd:kind=4∨kind=5):
  (S.flush (i:Nat) (l:Nat) kind).2=0∧Cm (Xk 6 (S.flush (i:Nat) (l:Nat) kind).1) (k+201) Vs∧(Xk 6 (S.flush (i:Nat) (l:Nat) kind).1).D.get (l:Nat)=Vs l:=by
 have p:=h.pr
 have hdl:=p.wf.dir
 have hlines:=p.wf.c.lines
 obtain ⟨a0,_,_⟩:=h.calm.nd i N hN
 have hg:Jy ⟨kind,(l:Nat),false,false,zeroL⟩=true:=Zbq (by omega) (by omega)
 have hS:S.flush (i:Nat) (l:Nat) kind=(S.setN i { N with A:=N.A,up:=Xj N.up [⟨kind,(l:Nat),false,false,zeroL⟩] },0):=by
  unfold Sys.flush;rw [Sys.at_of hN];simp only;rw [if_neg (by rw [JdD hl];decide),if_neg (by omega)]
  show (_,(XW N.up _).2)=_
  have e:(XW N.up ⟨kind,(l:Nat),false,false,zeroL⟩)=(N.up++[⟨kind,(l:Nat),false,false,zeroL⟩],0):=Xaz hg (by rw [a0];simp)
  rw [e]
  show (_,(0:Int))=(S.setN i { N with A:=N.A,up:=(XW N.up _).1 },0)
  rw [e]
 have pp:=(ZfD p (by decide) (by omega) (i:Nat) (l:Nat) kind).1
 rw [hS] at pp ⊢
 have h0:=JfO (l:=l) h.calm hN (A':=N.A) (m:=⟨kind,(l:Nat),false,false,zeroL⟩) rfl hg
 have ht:Tf i l (S.setN i { N with A:=N.A,up:=Xj N.up [⟨kind,(l:Nat),false,false,zeroL⟩] }):=by
  refine ⟨_,Xw hN,.inr ⟨⟨kind,(l:Nat),false,false,zeroL⟩,?_,hkd⟩⟩
  show (XW N.up _).1=_
  rw [a0,Xaz hg (by simp)];rfl
 obtain ⟨c,q,⟨E,hE,ho,hd⟩,p2⟩:=Qcr XeA h0 h.q (h0.qs.small pp) ⟨h.q,ht⟩ (by omega) hl
 refine ⟨rfl,⟨c,q,p2.le (Nat.le_refl 1) (by omega)⟩,?_⟩
 have ei:=(p2.line l E hE).ei
 have ge:=Xbd ei
 have e1:ZY (Xk 6 (S.setN i { N with A:=N.A,up:=Xj N.up [⟨kind,(l:Nat),false,false,zeroL⟩] })).q (Xk 6 (S.setN i { N with A:=N.A,up:=Xj N.up [⟨kind,(l:Nat),false,false,zeroL⟩] })).D (l:Nat)=Vs l:=by
  cases hh:E.here with
  | false=>exact ei.mem hh
  | true=>exact (ei.cln hh hd).symm.trans (ei.val (by have:=ge.lo;omega) hh)
 rw [q] at e1
 exact e1
end
end Go.Proofs.YtmchcjaomcdbmaaGreat.Gen
namespace Go.Proofs.YtmchcjaomcdbmaaGreat.Gen
open Go Go.Proofs.YtmchcjaomcdbmaaGreat.Abs Go.RowKit
variable {g:G} {n:Nat}
theorem JaA (a:Int) {m:Int} (h1:1≤m) (h2:m≤1000) {K:Cont} (hK: ∀n',K (.int .i64 (a%m)) g n'):AC Xl [.int .i64 a,.int .i64 m] g n K:=by
 refine ACalls.fold Zc ?_
 rw [←XbJ]
 simp only [Qbg]
 refine QeE (QD (fun h=>absurd h (by omega)) (fun _=> ?_))
 rw [QbP]
 refine ⟨by omega,?_⟩
 have b1: -m<a.tmod m∧a.tmod m<m:=by
  have:=Int.tmod_lt_of_pos a (show 0<m by omega)
  have:=Int.lt_tmod_of_pos a (show 0<m by omega)
  omega
 rw [Qn,Xp (by omega) (by omega),QbP]
 refine ⟨by omega,?_⟩
 have e:(a.tmod m+m).tmod m=a%m:=by
  rw [Int.tmod_eq_emod_of_nonneg (by omega),Int.add_emod_right]
  by_cases h0:0≤a
  ·rw [Int.tmod_eq_emod_of_nonneg h0,Int.emod_emod_of_dvd a (Int.dvd_refl m)]
  ·have:=Int.emod_add_mul_ediv a m
   have h3:a.tmod m=a-m*(a.tdiv m):=by have:=Int.tmod_add_mul_tdiv a m;omega
   rw [h3,Int.sub_emod,Int.mul_emod_right]
   simp
 rw [e]
 exact Ja (Sub.refl _) (hK _)
section
variable {o:Col Cl} {l:Nat} {W:Xbx} {S:Sys} {K:Cont} {k:Nat}
theorem Sys.wf.st (h:S.wf k) (hk:k<100000) (j:Nat):(S.st j).wf (k+1):=((h.up _).answer _).hear hk _
theorem Sys.wf.wr (h:S.wf k) (j:Nat):(S.wr j).wf k:=(h.push _).drain _
theorem Sys.wf.cores (h:S.wf k): ∀j,k+j<100000→(ZJ j S).wf (k+j)
 | 0,_=>h
 | j+1,hk=>by rw [Q6];exact (Sys.wf.cores h j (by omega)).st (by omega) j
theorem Sys.wf.lines (h:S.wf k): ∀j,(Qas j S).wf k
 | 0=>h
 | j+1=>by rw [Xah];exact (Sys.wf.lines h j).wr j
theorem Sys.wf.round (h:S.wf k) (hk:k+8<100000):S.round.wf (k+8):=by
 have hc:=h.c.cores
 exact ((h.cores S.c.cores.toNat (by omega)).le (by omega)).lines _
set_option maxRecDepth 100000 in
theorem JbE (h:SysH o g l W S) (hw:S.wf k) (hk:k+48<100000) (hK: ∀o' g' n' W',Sub (unc o g) (unc o' g')→SysH o' g' l W' (Xk 6 S)→K (.tuple #[]) g' n'):
  AC XA [ptr l 0,.agg (Xr S.c).toArray] g n K:=by
 refine ACalls.fold Zc ?_
 rw [←Jba]
 simp only [QaH,Zf]
 intro hn
 have s1:=(Sub.refl g).new hn (some (.cells (Xr S.c) .exact))
 have x1:unc o (upd g n (some (.cells (Xr S.c) .exact))) n=some (.cells (Xr S.c) .exact):=Xcr h hn _
 have h1:=h.mono s1
 have u1:=Sub.uncs h.live s1
 generalize upd g n (some (.cells (Xr S.c) .exact))=g1 at s1 x1 h1 u1
 have hco:=hw.c.cores
 have hli:=hw.c.lines
 refine QY (m:=6) (Inv:=fun m t g9 n9=> ∃(i:Nat) (o9:Col Cl) (W9:Xbx) (S9:Sys),m+i=6∧Sub (unc o g1) (unc o9 g9)∧SysH o9 g9 l W9 S9∧S9.wf (k+8*i)∧S9.c=S.c∧Xk m S9=Xk 6 S∧t 0=ptr l 0∧t 3=ptr n 0∧t 4= .int .i64 (i:Nat)) ?_
  ⟨0,o,W,S,rfl,Sub.refl _,h1,hw,rfl,rfl,rfl,rfl,rfl⟩
 rintro I m t g9 n9 ih ⟨i,o9,W9,S9,hm,u9,h9,w9,c9,e9,t0,t3,t4⟩
 simp only [Xas,t4]
 refine QeE (QD (fun hlt=> ?_) (fun hlt=> ?_))
 ·obtain ⟨m',rfl⟩: ∃m',m=m'+1:=⟨m-1,by omega⟩
  refine QY (m:=S.c.cores.toNat) (Inv:=fun q t2 gg nn=> ∃(j:Nat) (o2:Col Cl) (W2:Xbx),q+j=S.c.cores.toNat∧Sub (unc o9 g9) (unc o2 gg)∧SysH o2 gg l W2 (ZJ j S9)∧t2 0=ptr l 0∧t2 3=ptr n 0∧t2 4= .int .i64 (i:Nat)∧t2 5= .int .i64 (j:Nat)) ?_
   ⟨0,o9,W9,by omega,Sub.refl _,h9,t0,t3,t4,rfl⟩
  rintro I2 q t2 gg nn ih2 ⟨j,o2,W2,hq,u2,h2,r0,r3,r4,r5⟩
  simp only [Jas,r0,r3,r5,Jb]
  have xg: ∀{oz:Col Cl} {gz:G},Sub (unc o9 g9) (unc oz gz)→gz n=some (.cells (Xr S.c) .exact):=fun {oz gz} u=>(Qv _ _).live ((u9.trans u).live x1)
  refine Xb (xg u2) (show (Xr S.c)[0+0]? =some (.int .i64 S.c.cores) from rfl) (QeE (QD (fun hlt2=> ?_) (fun hlt2=> ?_)))
  ·have w2:(ZJ j S9).wf (k+8*i+j):=w9.cores j (by omega)
   refine QcY h2 w2.shp (Zgw w2) _ (fun o3 g3 n3 W3 u3 h3=> ?_)
   have w3:=w2.up (j:Nat)
   refine Qb9 h3 (Xgg w3) _ (fun o4 g4 n4 W4 u4 h4=> ?_)
   have w4:=w3.answer (j:Nat)
   refine Xbr h4 (w4.fit (by omega)) _ (fun o5 g5 n5 W5 u5 h5=> ?_)
   rw [Qn,Xax (by omega)]
   exact ih2 (q-1) _ _ _ (by omega) ⟨j+1,o5,W5,by omega,((u2.trans u3).trans u4).trans u5,by rw [Q6];exact h5,r0,r3,r4,rfl⟩
  ·have hj:j=S.c.cores.toNat:=by omega
   have wc:(ZJ j S9).wf (k+8*i+8):=(w9.cores j (by omega)).le (by omega)
   have l4: ∀(t':Env),t' 0=ptr l 0→t' 3=ptr n 0→t' 4= .int .i64 (i:Nat)→JY AC K I t' gg nn:=by
    intro t' q0 q3 q4
    simp only [JY]
    refine QY (m:=S.c.lines.toNat) (Inv:=fun q t3 ga na=> ∃(jl:Nat) (o3:Col Cl) (W3:Xbx),q+jl=S.c.lines.toNat∧Sub (unc o9 g9) (unc o3 ga)∧SysH o3 ga l W3 (Qas jl (ZJ j S9))∧t3 0=ptr l 0∧t3 3=ptr n 0∧t3 4= .int .i64 (i:Nat)∧t3 6= .int .i64 (jl:Nat)) ?_
     ⟨0,o2,W2,by omega,u2,h2,q0,q3,q4,rfl⟩
    rintro I3 q t3 ga na ih3 ⟨jl,o3,W3,hq3,u3,h3,p0,p3,p4,p6⟩
    simp only [Zat,p0,p3,p6,Jb]
    refine Xb (xg u3) (show (Xr S.c)[0+1]? =some (.int .i64 S.c.lines) from rfl) (QeE (QD (fun hlt3=> ?_) (fun hlt3=> ?_)))
    ·have w3:=wc.lines jl
     refine JeA h3 w3.shp _ (fun o4 g4 n4 W4 u4 h4=> ?_)
     have w4:=w3.push (jl:Nat)
     refine ZdN h4 w4.shp _ (fun o5 g5 n5 W5 u5 h5=> ?_)
     rw [Qn,Xax (by omega)]
     exact ih3 (q-1) _ _ _ (by omega) ⟨jl+1,o5,W5,by omega,(u3.trans u4).trans u5,by rw [Xah];exact h5,p0,p3,p4,rfl⟩
    ·have hjl:jl=S.c.lines.toNat:=by omega
     have hr:Qas jl (ZJ j S9)=S9.round:=by unfold Sys.round;rw [c9,hj,hjl]
     rw [hr] at h3
     have j5: ∀(t4:Env),t4 0=ptr l 0→t4 3=ptr n 0→t4 4= .int .i64 (i:Nat)→JX AC K I t4 ga na:=by
      intro t4 z0 z3 z4
      simp only [JX,z4]
      rw [Qn,Xax (by omega)]
      exact ih m' _ _ _ (by omega) ⟨i+1,o3,W3,S9.round,by omega,u9.trans u3,h3,(w9.round (by omega)).le (by omega),(Qco _).trans c9,e9,z0,z3,rfl⟩
     exact j5 _ p0 p3 p4
   exact l4 _ r0 r3 r4
 ·have h0:m=0:=by omega
  subst h0
  have e9':S9=Xk 6 S:=e9
  rw [e9'] at h9
  exact Ja (Sub.refl _) (hK _ _ _ _ (u1.trans u9) h9)
end
section
variable {o:Col Cl} {l:Nat} {W:Xbx} {S:Sys} {K:Cont} {k:Nat} {Vs:Nat→Ln}
theorem Zee (S:Sys) (i l w v:Int):(S.store i l w v).1.c=S.c:=Zf2 S ⟨1,i,l,w,v⟩
theorem XfQ (S:Sys) (i l w:Int):(S.load i l w).1.c=S.c:=Zf2 S ⟨0,i,l,w,0⟩
theorem Cm.le {S:Sys} {k k':Nat} {Vs:Nat→Ln} (h:Cm S k Vs) (hk:k≤k'):Cm S k' Vs:=⟨h.calm,h.q,h.pr.le (Nat.le_refl 1) hk⟩
theorem Cm.node (h:Cm S k Vs) {i:Nat} (hi:(i:Int)<S.c.cores): ∃N,S.nodes[i]? =some N:=ZaY (by have:=h.pr.wf.nodes;omega)
theorem XdW (h:SysH o g l W S) (hc:Cm S k Vs) (hk:k+1000<100000) {x:Stp} {i ln:Nat} (hi:(i:Int)<S.c.cores) (hl:(ln:Int)<S.c.lines) (ex:x.core=(i:Nat)) (el:x.line=(ln:Nat)) (hw:0≤x.word∧x.word<8)
  (hK: ∀o' g' n' W' S',Sub (unc o g) (unc o' g')→SysH o' g' l W' S'→Cm S' (k+603) (Zfj Vs (ln:Nat) x.word x.val)→S'.c=S.c→AtN S' i (fun A=>(A.slot (ln:Nat)).state=3)→K (.bool true) g' n'):
  AC X5 [ptr l 0,.agg (Xr S.c).toArray,.agg (Xu x).toArray] g n K:=by
 refine ACalls.fold Zc ?_
 rw [←Xbe]
 simp only [ZaL,Zf]
 intro hn
 have s1:=(Sub.refl g).new hn (some (.cells (Xr S.c) .exact))
 have x1:unc o (upd g n (some (.cells (Xr S.c) .exact))) n=some (.cells (Xr S.c) .exact):=Xcr h hn _
 have h1:=h.mono s1
 have u1:=Sub.uncs h.live s1
 generalize upd g n (some (.cells (Xr S.c) .exact))=g1 at s1 x1 h1 u1
 intro hn2
 have s2:=(Sub.refl g1).new hn2 (some (.cells (Xu x) .exact))
 have x2:unc o (upd g1 (n+1) (some (.cells (Xu x) .exact))) (n+1)=some (.cells (Xu x) .exact):=Xcr h1 hn2 _
 have h2:=h1.mono s2
 have u2:=u1.trans (Sub.uncs h1.live s2)
 have x1':=(Sub.uncs h1.live s2).live x1
 generalize upd g1 (n+1) (some (.cells (Xu x) .exact))=g2 at s2 x2 h2 u2 x1'
 refine QY (m:=3) (Inv:=fun m t g9 n9=> ∃(j:Nat) (o9:Col Cl) (W9:Xbx) (S9:Sys),m+j=3∧j≤2∧Sub (unc o g2) (unc o9 g9)∧SysH o9 g9 l W9 S9∧Cm S9 (k+201*j) Vs∧S9.c=S.c∧Rdy R2 i ln j S9∧t 0=ptr l 0∧t 4=ptr n 0∧t 5=ptr (n+1) 0∧t 7= .int .i64 (j:Nat)) ?_
  ⟨0,o,W,S,rfl,by decide,Sub.refl _,h2,hc,rfl,trivial,rfl,rfl,rfl,rfl⟩
 rintro I m t g9 n9 ih ⟨j,o9,W9,S9,hm,hj2,u9,h9,hc9,c9,hr,t0,t4,t5,t7⟩
 simp only [Xaw,t0,t4,t5,t7,Jb]
 have xs:=(Qv _ _).live (u9.live x2)
 refine QeE (QD (fun hlt=> ?_) (fun hlt=>absurd hlt (by omega)))
 refine Xb xs (show (Xu x)[0+1]? =some (.int .i64 x.core) from rfl) (Xb xs (show (Xu x)[0+2]? =some (.int .i64 x.line) from rfl) (Xb xs (show (Xu x)[0+3]? =some (.int .i64 x.word) from rfl) (Xb xs (show (Xu x)[0+4]? =some (.int .u64 x.val) from rfl) ?_)))
 rw [ex,el]
 refine Qbz h9 (hc9.pr.wf.fit (by omega)) _ _ _ _ (fun o3 g3 n3 W3 u3 h3=> ?_)
 obtain ⟨N,hN⟩:=hc9.node (i:=i) (by rw [c9];exact hi)
 have hld:ln<S9.dir.length:=by have:=hc9.pr.wf.dir;rw [c9] at this;omega
 rcases Zel hc9 (by omega) hN hld hw (v:=x.val) hj2 hr with ⟨b1,b2,M,hM,b3,_⟩|⟨b1,b2,b3,b4⟩
 ·rw [b1]
  refine Xi rfl ?_
  exact Ja (Sub.refl _) (hK _ _ _ _ _ ((u2.trans u9).trans u3) h3 ⟨b2.calm,b2.q,b2.pr.le (Nat.le_refl 1) (by omega)⟩ ((Zee _ _ _ _ _).trans c9) ⟨M,hM,b3⟩)
 ·rw [b2]
  refine Qd rfl ?_
  have e4:(S9.store (i:Nat) (ln:Nat) x.word x.val).1.c=S.c:=(Zee _ _ _ _ _).trans c9
  have w4:(S9.store (i:Nat) (ln:Nat) x.word x.val).1.wf (k+201*j+1):=hc9.pr.wf.store (by omega) _ _ _ _
  refine Xv ((Qv _ _).live ((u9.trans u3).live x1')) (by simp [Xr]) ?_
  rw [show ((Xr S.c).drop 0).take 7=Xr S.c from rfl,←e4]
  refine JbE h3 w4 (by omega) (fun o5 g5 n5 W5 u5 h5=> ?_)
  rw [Qn,Xax (by omega)]
  refine ih (m-1) _ _ _ (by omega) ⟨j+1,o5,W5,_,by omega,by omega,(u9.trans u3).trans u5,h5,⟨b3.calm,b3.q,b3.pr.le (Nat.le_refl 1) (by omega)⟩,(Zdd _ 6).trans e4,b4,t0,t4,t5,rfl⟩
end
end Go.Proofs.YtmchcjaomcdbmaaGreat.Gen
namespace Go.Proofs.YtmchcjaomcdbmaaGreat.Gen
open Go Go.Proofs.YtmchcjaomcdbmaaGreat.Abs Go.RowKit
variable {g:G} {n:Nat}
theorem Jga (c:List Value) (h:RepL g [.i .i64,.i .i64,.i .i64,.i .i64,.i .u64] c): ∃x,c=Xu x:=by
 obtain ⟨a1,r1,e1,_,h⟩:=Zcc h
 obtain ⟨a2,r2,e2,_,h⟩:=Zcc h
 obtain ⟨a3,r3,e3,_,h⟩:=Zcc h
 obtain ⟨a4,r4,e4,_,h⟩:=Zcc h
 obtain ⟨a5,r5,e5,_,h⟩:=Zcc h
 have e:=XdO h
 subst e e5 e4 e3 e2 e1
 exact ⟨⟨a1,a2,a3,a4,a5⟩,rfl⟩
theorem Zgl (c:List Value) (h:RepL g [.i .i64,.i .i64,.i .i64,.i .i64,.i .i64,.i .i64,.i .i64] c): ∃x,c=Xr x:=by
 obtain ⟨a1,r1,e1,_,h⟩:=Zcc h
 obtain ⟨a2,r2,e2,_,h⟩:=Zcc h
 obtain ⟨a3,r3,e3,_,h⟩:=Zcc h
 obtain ⟨a4,r4,e4,_,h⟩:=Zcc h
 obtain ⟨a5,r5,e5,_,h⟩:=Zcc h
 obtain ⟨a6,r6,e6,_,h⟩:=Zcc h
 obtain ⟨a7,r7,e7,_,h⟩:=Zcc h
 have e:=XdO h
 subst e e7 e6 e5 e4 e3 e2 e1
 exact ⟨⟨a1,a2,a3,a4,a5,a6,a7⟩,rfl⟩
theorem Xfl {args:List Value} (hr:XdV g [(true,[.i .i64,.i .i64,.i .i64,.i .i64,.i .i64,.i .i64,.i .i64]),(false,[.s [.i .i64,.i .i64,.i .i64,.i .i64,.i .u64]])] args): ∃c v2 steps,args=[.agg (Xr c).toArray,v2]∧Sl Xu 5 g v2 steps:=by
 cases hr with
 | cons h1 hr=>
 cases hr with
 | cons h3 hr=>
 cases hr
 obtain ⟨cs,e,h1⟩:=h1
 obtain ⟨c,e1⟩:=Zgl _ h1
 obtain ⟨v3,r3,e3,h3,h3'⟩:=Qgz h3
 have e3':=XdO h3'
 subst e3'
 cases e3
 subst e1 e
 obtain ⟨steps,hs,_⟩:=Qgi Jga h3
 exact ⟨c,_,steps,rfl,hs⟩
end Go.Proofs.YtmchcjaomcdbmaaGreat.Gen
namespace Go.Proofs.YtmchcjaomcdbmaaGreat.Gen
open Go Go.Proofs.YtmchcjaomcdbmaaGreat.Abs Go.RowKit
variable {g:G} {n:Nat}
theorem QbJ {a b c v:Int} {K:List Value→Prop} (k:K (Xu ⟨0,a,b,c,v⟩)):Qi [.int .i64 0,.int .i64 0,.int .i64 0,.int .i64 0,.int .u64 0] [(1,none,.int .i64 a),(2,none,.int .i64 b),(3,none,.int .i64 c),(4,none,.int .u64 v)] K:=
 ⟨rfl,by decide,rfl,Nat.le_of_ble_eq_true rfl,rfl,Nat.le_of_ble_eq_true rfl,rfl,Nat.le_of_ble_eq_true rfl,k⟩
theorem Qfz {l:Nat} {x z:Stp} {K:G→Prop} (h:g l=some (.cells (Xu z) .exact)) (k:K (upd g l (some (.cells (Xu x) .exact)))):(Xu x).length=5∧Qx g l 0 (Xu x) K:=by
 refine ⟨rfl,JB h rfl (by rw [Xal,Xal];decide) (by simp [Xu,isCell]) ?_⟩
 rw [Qw (by rw [Xal,Xal])];exact k
theorem Jfk (x:Ln) {w:Int} (h0:0≤w) (h8:w<8) (v:Int):Ja5 (x.put w.toNat v) w=v:=by
 have:=x.2
 unfold Ja5 Ln.put
 rw [List.getD_eq_getElem?_getD,List.getElem?_set_self (by omega)];rfl
theorem ZfF (Vs:Nat→Ln) (ln:Nat) {w:Int} (h0:0≤w) (h8:w<8) (v:Int):Ja5 (Zfj Vs (ln:Nat) w v ln) w=v:=by
 unfold Zfj
 rw [if_pos rfl];exact Jfk _ h0 h8 v
theorem Zf0 {l o:Nat} {d:Ln} {w:Int} {K:Value→Nat→Nat→Value→Prop} (h:At g l o (Qm d)) (hw:0≤w∧w<8) (k: ∀p l' o',K p l' o' (.int .u64 (Ja5 d w))):ZE (ptr l o) (.int .i64 w) 8 1 fun p=>Zd p fun l' o'=>kLd g l' o' (K p l' o'):=by
 refine ⟨hw.1,hw.2,?_⟩
 show Zd (ptr l (o+w.toNat*1)) _
 rw [Jb,show o+w.toNat*1=o+w.toNat by omega]
 refine h.ld ?_ (k _ _ _)
 have h3:=d.2
 unfold Qm Ja5
 rw [List.getElem?_map,List.getElem?_eq_getElem (by omega),List.getD_eq_getElem?_getD,List.getElem?_eq_getElem (by omega)]
 rfl
theorem Jgn {S:Sys} {k ln:Nat} {Vs:Nat→Ln} (h:Cm S k Vs) (hl:(ln:Int)<S.c.lines) {V:Ln} (hv:S.D.get (ln:Nat)=V):(over S.q S.D.mem).length=S.c.lines.toNat∧(over S.q S.D.mem)[ln]? =some V:=by
 rw [h.q]
 have hm:=h.pr.wf.mem
 refine ⟨hm,?_⟩
 show S.D.mem[ln]? =_
 unfold Dev.get at hv
 rw [if_pos (by omega),Int.toNat_natCast,List.getD_eq_getElem?_getD,List.getElem?_eq_getElem (by omega)] at hv
 rw [List.getElem?_eq_getElem (by omega)]
 exact congrArg some hv
def Qfo (g0:G) (l2 l:Nat) (v1:Value) (c:Cfg) (j:Nat) (t:Env) (g:G):Prop:=
 ∃(o:Col Cl) (W:Xbx) (S:Sys) (Vs:Nat→Ln),Sub g0 (unc o g)∧SysH o g l W S∧Cm S (1500*j) Vs∧S.c=c∧t 1=v1∧t 2=ptr l2 0∧t 5=ptr l 0∧t 7= .int .i64 (j:Nat)
set_option maxRecDepth 100000 in
theorem Xfm {g0:G} {l2 l l8:Nat} {v1:Value} {c:Cfg} {j:Nat} {K:Cont} {I:Zl} (hcg:c.good) (hc12:c.lines≤12) (hj:j<12) (hI: ∀t' g' n',Qfo g0 l2 l v1 c (j+1) t' g'→I t' g' n') (hg2:g0 l2=some (.cells (Xr c) .exact))
  {o:Col Cl} {W:Xbx} {S:Sys} {Vs:Nat→Ln} (hs:Sub g0 (unc o g)) (h:SysH o g l W S) (hc:Cm S (1500*j) Vs) (ec:S.c=c) {x:Stp} {i ln:Nat} (hi:(i:Int)<c.cores) (hl:(ln:Int)<c.lines) (ex:x.core=(i:Nat)) (el:x.line=(ln:Nat)) (hw:0≤x.word∧x.word<8)
  (x8:unc o g l8=some (.cells (Xu x) .exact)) {t:Env} (t1:t 1=v1) (t2:t 2=ptr l2 0) (t5:t 5=ptr l 0) (t7:t 7= .int .i64 (j:Nat)) (t8:t 8=ptr l8 0):Zm AC K I t g n:=by
 have hcores:=hcg.cores
 have hlines:=hcg.lines
 simp only [Zm,t2,t5,t8,Jb]
 refine Xv ((Qv _ _).live (hs.live hg2)) (by simp [Xr]) ?_
 rw [show ((Xr c).drop 0).take 7=Xr c from rfl]
 refine Xv ((Qv _ _).live x8) (by simp [Xu]) ?_
 rw [show ((Xu x).drop 0).take 5=Xu x from rfl,←ec]
 refine XdW h hc (by omega) (by rw [ec];exact hi) (by rw [ec];exact hl) ex el hw (fun o1 g1 n1 W1 S1 u1 h1 c1 ec1 _=> ?_)
 rw [ec] at ec1
 refine Jbs (Qd rfl ?_)
 have y8:=(Qv _ _).live (u1.live x8)
 have y2:=(Qv _ _).live (u1.live (hs.live hg2))
 refine Xb y8 (show (Xu x)[0+1]? =some (.int .i64 x.core) from rfl) ?_
 rw [ex,Qn,Xax (by omega)]
 refine Xb y2 (show (Xr c)[0+0]? =some (.int .i64 c.cores) from rfl) ?_
 rw [QbP]
 refine ⟨by omega,?_⟩
 rw [Int.tmod_eq_emod_of_nonneg (by omega)]
 have io0:=Int.emod_nonneg ((i+1:Nat):Int) (show c.cores≠0 by omega)
 have io1:=Int.emod_lt_of_pos ((i+1:Nat):Int) (show 0<c.cores by omega)
 obtain ⟨io,hio⟩: ∃io:Nat,((i+1:Nat):Int)%c.cores=(io:Nat):=⟨(((i+1:Nat):Int)%c.cores).toNat,by omega⟩
 rw [hio]
 have hio':(io:Int)<c.cores:=by omega
 generalize hV:Zfj Vs (ln:Nat) x.word x.val=V at c1
 have hVv:Ja5 (V ln) x.word=x.val:=by rw [←hV];exact ZfF _ _ hw.1 hw.2 _
 refine QY (m:=8) (Inv:=fun m t' g9 n9=> ∃(q:Nat) (got:Bool) (o9:Col Cl) (W9:Xbx) (S9:Sys),m+q=8∧q≤3∧Sub (unc o g) (unc o9 g9)∧SysH o9 g9 l W9 S9∧Cm S9 (1500*j+603+201*q) V∧S9.c=c∧(got=false→q≤2∧Rdy R12 io ln q S9)∧
  t' 1=v1∧t' 2=ptr l2 0∧t' 5=ptr l 0∧t' 7= .int .i64 (j:Nat)∧t' 8=ptr l8 0∧t' 9= .int .i64 (io:Nat)∧t' 10= .bool got∧t' 11= .int .i64 (q:Nat)) ?_
  ⟨0,false,o1,W1,S1,rfl,by decide,u1,h1,c1,ec1,fun _=>⟨by decide,trivial⟩,t1,t2,t5,t7,t8,rfl,rfl,rfl⟩
 rintro I5 m t' g9 n9 ih ⟨q,got,o9,W9,S9,hm,hq3,u9,h9,c9,ec9,hrd,q1,q2,q5,q7,q8,q9,q10,q11⟩
 simp only [Xae,q11,q10]
 refine QeE (QD (fun _=> ?_) (fun hh=>absurd hh (by omega)))
 refine Jbs ?_
 have z8:=(Qv _ _).live (u9.live x8)
 have z2:=(Qv _ _).live (u9.live (hs.live hg2))
 have hld9:ln<S9.dir.length:=by have:=c9.pr.wf.dir;rw [ec9] at this;omega
 have j6: ∀(ta:Env),ta 1=v1→ta 2=ptr l2 0→ta 5=ptr l 0→ta 7= .int .i64 (j:Nat)→ta 8=ptr l8 0→ta 9= .int .i64 (io:Nat)→ta 10= .bool got→ta 11= .int .i64 (q:Nat)→ta 90= .bool (!got)→ZD AC K I I5 ta g9 n9:=by
  intro ta a1 a2 a5 a7 a8 a9 a10 a11 a90
  simp only [ZD,a90,a8,a5,a9,Jb]
  cases got with
  | false=>
   obtain ⟨hq2,hr⟩:=hrd rfl
   refine Xi rfl ?_
   refine Xb z8 (show (Xu x)[0+2]? =some (.int .i64 x.line) from rfl) (Xb z8 (show (Xu x)[0+3]? =some (.int .i64 x.word) from rfl) ?_)
   rw [el]
   refine Zb4 h9 (c9.pr.wf.fit (by omega)) _ _ _ (fun o3 g3 n3 W3 u3 h3=> ?_)
   refine Zgs rfl (Zgs rfl ?_)
   obtain ⟨N,hN⟩:=c9.node (i:=io) (by rw [ec9];exact hio')
   have w3:(S9.load (io:Nat) (ln:Nat) x.word).1.wf (1500*j+603+201*q+1):=c9.pr.wf.load (by omega) _ _ _
   have e3:(S9.load (io:Nat) (ln:Nat) x.word).1.c=c:=(XfQ _ _ _ _).trans ec9
   have j7: ∀(hit:Bool) (tb:Env),Cm (Xk 6 (S9.load (io:Nat) (ln:Nat) x.word).1) (1500*j+603+201*(q+1)) V→(hit=false→q+1≤2∧Rdy R12 io ln (q+1) (Xk 6 (S9.load (io:Nat) (ln:Nat) x.word).1))→
     tb 1=v1→tb 2=ptr l2 0→tb 5=ptr l 0→tb 7= .int .i64 (j:Nat)→tb 8=ptr l8 0→tb 9= .int .i64 (io:Nat)→tb 13= .bool hit→tb 11= .int .i64 (q:Nat)→tb 109= .bool false→XC AC K I I5 tb g3 n3:=by
    intro hit tb hcm hh b1 b2 b5 b7 b8 b9 b13 b11 b109
    simp only [XC,b109,b2,b5,b11,b13,Jb]
    refine Qd rfl ?_
    refine Xv ((Qv _ _).live ((u9.trans u3).live (hs.live hg2))) (by simp [Xr]) ?_
    rw [show ((Xr c).drop 0).take 7=Xr c from rfl,←e3]
    refine JbE h3 w3 (by omega) (fun o5 g5 n5 W5 u5 h5=> ?_)
    rw [Qn,Xax (by omega)]
    exact ih (m-1) _ _ _ (by omega) ⟨q+1,hit,o5,W5,_,by omega,by omega,(u9.trans u3).trans u5,h5,hcm,(Zdd _ 6).trans e3,hh,b1,b2,b5,b7,b8,b9,rfl,rfl⟩
   rcases Xfa c9 (by omega) hN hld9 hw hq2 hr with ⟨b1,b2,b3⟩|⟨b1,b2,b3,b4⟩
   ·rw [b1,b3,hVv]
    refine Xi rfl ?_
    refine Xb ((Qv _ _).live ((u9.trans u3).live x8)) (show (Xu x)[0+4]? =some (.int .u64 x.val) from rfl) ?_
    refine Qcg ?_
    refine j7 true _ ?_ (fun e=>nomatch e) a1 a2 a5 a7 a8 a9 rfl a11 (by show Value.bool (decide (x.val≠x.val))=_;rw [decide_eq_false (fun e=>e rfl)])
    rw [QbC b2.calm b2.q];exact b2.le (by omega)
   ·rw [b2]
    refine Qd rfl ?_
    exact j7 false _ (b3.le (by omega)) (fun _=>⟨by omega,b4⟩) a1 a2 a5 a7 a8 a9 rfl a11 rfl
  | true=>
   refine Qd rfl ?_
   simp only [Qae,a10,a8,a7,a5,Jb]
   refine Jbs (Qd rfl ?_)
   refine Xb z8 (show (Xu x)[0+1]? =some (.int .i64 x.core) from rfl) (Xb z8 (show (Xu x)[0+2]? =some (.int .i64 x.line) from rfl) ?_)
   rw [QbP]
   refine ⟨by decide,?_⟩
   rw [Int.tmod_eq_emod_of_nonneg (by omega),Qn,Xp (by omega) (by omega),ex,el]
   refine ZdG h9 _ _ _ (fun o3 g3 n3 W3 u3 h3=> ?_)
   obtain ⟨N,hN⟩:=c9.node (i:=i) (by rw [ec9];exact hi)
   obtain ⟨f1,f2,f3⟩:=Qeq c9 (by omega) hN hld9 (kind:=4+((j:Nat):Int)%2) (by omega)
   have w3:(S9.flush (i:Nat) (ln:Nat) (4+((j:Nat):Int)%2)).1.wf (1500*j+603+201*q):=c9.pr.wf.flush _ _ _
   have e3:(S9.flush (i:Nat) (ln:Nat) (4+((j:Nat):Int)%2)).1.c=c:=by
    rw [←ec9]
    unfold Sys.flush
    split
    ·rfl
    ·split
     ·rfl
     ·split<;>rfl
   rw [f1]
   refine Qcg ?_
   have j9: ∀(tb:Env),tb 1=v1→tb 2=ptr l2 0→tb 5=ptr l 0→tb 7= .int .i64 (j:Nat)→tb 8=ptr l8 0→tb 127= .bool false→ZC AC K I tb g3 n3:=by
    intro tb b1 b2 b5 b7 b8 b127
    simp only [ZC,b127,b2,b5,b8,Jb]
    refine Qd rfl ?_
    refine Xv ((Qv _ _).live ((u9.trans u3).live (hs.live hg2))) (by simp [Xr]) ?_
    rw [show ((Xr c).drop 0).take 7=Xr c from rfl,←e3]
    refine JbE h3 w3 (by omega) (fun o5 g5 n5 W5 u5 h5=> ?_)
    have e5:=(Zdd (S9.flush (i:Nat) (ln:Nat) (4+((j:Nat):Int)%2)).1 6).trans e3
    have w5:=f2.pr.wf
    refine Qdh h5 w5.shp w5.inr (fun v6 g6 n6 s6 o6=> ?_)
    have h6:=h5.mono s6
    have u6:=((u9.trans u3).trans u5).trans (Sub.uncs h5.live s6)
    obtain ⟨m1,m2⟩:=Jgn f2 (ln:=ln) (by rw [e5];exact hl) f3
    refine o6.sl.len (Xb ((Qv _ _).live (u6.live (hs.live hg2))) (show (Xr c)[0+1]? =some (.int .i64 c.lines) from rfl) (Qcg (QD (fun hne=>absurd hne (by rw [m1,e5];omega)) (fun _=> ?_))))
    have y8:=(Qv _ _).live (u6.live x8)
    refine Xb y8 (show (Xu x)[0+2]? =some (.int .i64 x.line) from rfl) (Xb y8 (show (Xu x)[0+3]? =some (.int .i64 x.word) from rfl) ?_)
    rw [el]
    refine o6.sl.idx Jd m2 (fun la oa hat=> ?_)
    refine Zf0 hat hw (fun pz lz oz=> ?_)
    refine Xb y8 (show (Xu x)[0+4]? =some (.int .u64 x.val) from rfl) (Qcg ?_)
    rw [hVv]
    have j10: ∀(tc:Env),tc 1=v1→tc 2=ptr l2 0→tc 5=ptr l 0→tc 7= .int .i64 (j:Nat)→tc 150= .bool false→Xz AC K I tc g6 n6:=by
     intro tc d1 d2 d5 d7 d150
     simp only [Xz,Qaa,d150,d7]
     refine Qd rfl ?_
     rw [Qn,Xax (by omega)]
     exact hI _ _ _ ⟨o5,W5,_,V,hs.trans u6,h6,f2.le (by omega),e5,d1,d2,d5,rfl⟩
    exact j10 _ b1 b2 b5 b7 (by show Value.bool (decide (x.val≠x.val))=_;rw [decide_eq_false (fun e=>e rfl)])
   exact j9 _ a1 a2 a5 a7 a8 (by show Value.bool (decide ((0:Int)≠0))=_;rw [decide_eq_false (fun e=>e rfl)])
 exact j6 _ q1 q2 q5 q7 q8 q9 q10 q11 rfl
set_option maxRecDepth 100000 in
theorem Qfm {g0:G} {l2 l:Nat} {v1:Value} {c:Cfg} {steps:List Stp} {j:Nat} {K:Cont} {I:Zl} (hcg:c.good) (hc12:c.lines≤12) (hs0:Sl Xu 5 g0 v1 steps) (hsl:steps.length≤12) (hK: ∀g' n',K (.bool true) g' n') (hI:j<steps.length→ ∀t' g' n',Qfo g0 l2 l v1 c (j+1) t' g'→I t' g' n') (hg2:g0 l2=some (.cells (Xr c) .exact)) {t:Env} (hh:Qfo g0 l2 l v1 c j t g) (hj:j≤steps.length):
  XO AC K I t g n:=by
 obtain ⟨o,W,S,Vs,hs,h,hc,ec,t1,t2,t5,t7⟩:=hh
 have hcores:=hcg.cores
 have hlines:=hcg.lines
 simp only [XO,t1,t2,t7,Jb]
 have hsg:Sl Xu 5 g v1 steps:=(hs0.mono hs).mono (Qv _ _)
 refine hsg.len (QeE (QD (fun hlt=> ?_) (fun hlt=>JbY fun _ _=>Ja (Sub.refl _) (hK _ _))))
 obtain ⟨x,hx⟩: ∃x,steps[j]? =some x:=⟨_,List.getElem?_eq_getElem (by omega)⟩
 have x2:=(Qv _ _).live (hs.live hg2)
 have d1:(Xu x)[1]? =some (.int .i64 x.core):=rfl
 have d2:(Xu x)[2]? =some (.int .i64 x.line):=rfl
 have d3:(Xu x)[3]? =some (.int .i64 x.word):=rfl
 have d4:(Xu x)[4]? =some (.int .u64 x.val):=rfl
 refine hsg.idx Xal hx (fun la oa ha=> ?_)
 rw [Jb]
 refine ha.ld d1 (Xb x2 (show (Xr c)[0+0]? =some (.int .i64 c.cores) from rfl) ?_)
 refine hsg.idx Xal hx (fun lb ob hb=> ?_)
 rw [Jb]
 refine hb.ld d2 (Xb x2 (show (Xr c)[0+1]? =some (.int .i64 c.lines) from rfl) ?_)
 refine hsg.idx Xal hx (fun lc oc hcc=> ?_)
 rw [Jb]
 refine hcc.ld d3 ?_
 refine hsg.idx Xal hx (fun ld od hd=> ?_)
 rw [Jb]
 refine hd.ld d4 ?_
 obtain ⟨_,_,va,_⟩:=id ha
 obtain ⟨_,_,vb,_⟩:=id hb
 obtain ⟨_,_,vc,_⟩:=id hcc
 obtain ⟨_,_,vd,_⟩:=id hd
 have i0:=Int.emod_nonneg x.core (show c.cores≠0 by omega)
 have i1:=Int.emod_lt_of_pos x.core (show 0<c.cores by omega)
 have l0:=Int.emod_nonneg x.line (show c.lines≠0 by omega)
 have l1:=Int.emod_lt_of_pos x.line (show 0<c.lines by omega)
 have w0:=Int.emod_nonneg x.word (show (8:Int)≠0 by omega)
 have w1:=Int.emod_lt_of_pos x.word (show (0:Int)<8 by omega)
 obtain ⟨i,hi⟩: ∃i:Nat,x.core%c.cores=(i:Nat):=⟨(x.core%c.cores).toNat,by omega⟩
 obtain ⟨ln,hln⟩: ∃ln:Nat,x.line%c.lines=(ln:Nat):=⟨(x.line%c.lines).toNat,by omega⟩
 have fin: ∀(ta:Env) (l8 n8:Nat),g l8=none→ta 1=v1→ta 2=ptr l2 0→ta 5=ptr l 0→ta 7= .int .i64 (j:Nat)→ta 8=ptr l8 0→
   Zm AC K I ta (upd (upd g l8 (some (.cells (Xu ⟨0,0,0,0,0⟩) .exact))) l8 (some (.cells (Xu ⟨0,(i:Nat),(ln:Nat),x.word%8,x.val⟩) .exact))) n8:=by
  intro ta l8 n8 hn a1 a2 a5 a7 a8
  have s1:=((Sub.refl g).new hn (some (.cells (Xu ⟨0,0,0,0,0⟩) .exact))).upd_fresh (some (.cells (Xu ⟨0,(i:Nat),(ln:Nat),x.word%8,x.val⟩) .exact)) hn
  refine Xfm (x:=⟨0,(i:Nat),(ln:Nat),x.word%8,x.val⟩) hcg hc12 (by omega) (hI (by omega)) hg2 (hs.trans (Sub.uncs h.live s1)) (h.mono s1) hc ec (i:=i) (ln:=ln) (by omega) (by omega) rfl rfl ⟨w0,w1⟩ ?_ a1 a2 a5 a7 a8
  rw [Jo (h.live.fresh hn),Xa]
 have keep: ∀{l8:Nat} {b:Blk} {lx:Nat} {bb:Blk},g lx=some bb→g l8=none→upd g l8 (some b) lx=g lx:=fun {l8 b lx bb} hx hn=>Qc _ _ (fun e=>by rw [e,hn] at hx;cases hx)
 refine ⟨?_,?_⟩
 ·refine JaA _ (by omega) (by omega) (fun n1=>⟨rfl,rfl,rfl,rfl,?_,?_⟩)
  ·refine JaA _ (by omega) (by omega) (fun n2=>⟨rfl,rfl,?_,?_⟩)
   ·refine JaA _ (by omega) (by omega) (fun n3=>⟨rfl,QbJ ?_⟩)
    intro hn
    refine ⟨keep va hn,keep x2 hn,keep vb hn,keep x2 hn,keep vc hn,keep vd hn,?_⟩
    rw [Zf,hi,hln]
    exact Qfz (z:=⟨0,0,0,0,0⟩) (Xa _ _ _) (fin _ _ _ hn t1 t2 t5 t7 rfl)
   ·intro hn
    refine ⟨keep va hn,keep x2 hn,keep vb hn,keep x2 hn,keep vc hn,keep vd hn,?_⟩
    refine JaA _ (by omega) (by omega) (fun n3=>⟨rfl,QbJ ?_⟩)
    rw [Zf,hi,hln]
    exact Qfz (z:=⟨0,0,0,0,0⟩) (Xa _ _ _) (fin _ _ _ hn t1 t2 t5 t7 rfl)
  ·intro hn
   refine ⟨keep va hn,keep x2 hn,keep vb hn,keep x2 hn,keep vc hn,keep vd hn,?_⟩
   refine JaA _ (by omega) (by omega) (fun n2=>⟨rfl,rfl,?_⟩)
   refine JaA _ (by omega) (by omega) (fun n3=>⟨rfl,QbJ ?_⟩)
   rw [Zf,hi,hln]
   exact Qfz (z:=⟨0,0,0,0,0⟩) (Xa _ _ _) (fin _ _ _ hn t1 t2 t5 t7 rfl)
 ·intro hn
  refine ⟨keep va hn,keep x2 hn,keep vb hn,keep x2 hn,keep vc hn,keep vd hn,?_⟩
  refine JaA _ (by omega) (by omega) (fun n1=>⟨rfl,rfl,rfl,rfl,?_⟩)
  refine JaA _ (by omega) (by omega) (fun n2=>⟨rfl,rfl,?_⟩)
  refine JaA _ (by omega) (by omega) (fun n3=>⟨rfl,QbJ ?_⟩)
  rw [Zf,hi,hln]
  exact Qfz (z:=⟨0,0,0,0,0⟩) (Xa _ _ _) (fin _ _ _ hn t1 t2 t5 t7 rfl)
theorem Jgk {c:Cfg} (hc:c.good):Cm (Jct c []) 0 (fun _=>zeroL):=by
 have p:=Je2 hc 1 0
 refine ⟨⟨fun j N hN=> ?_,fun l E hE=> ?_⟩,rfl,p⟩
 ·obtain ⟨_,h⟩:=List.getElem?_eq_some_iff.1 (show (List.replicate c.cores.toNat (nd0 c))[j]? =some N from hN)
  rw [List.getElem_replicate] at h
  rw [←h];exact ⟨rfl,rfl,rfl⟩
 ·obtain ⟨_,h⟩:=List.getElem?_eq_some_iff.1 (show (List.replicate c.lines.toNat emptyEnt)[l]? =some E from hE)
  rw [List.getElem_replicate] at h
  rw [←h];rfl
set_option maxRecDepth 100000 in
theorem Zeo (c:Cfg) {v1:Value} {steps:List Stp} (h1:Sl Xu 5 g v1 steps) {K:Cont} (hK: ∀g' n',K (.bool true) g' n'):AC QO [.agg (Xr c).toArray,v1] g n K:=by
 refine ACalls.fold Zc ?_
 rw [←ZaP]
 simp only [Zas,Zf]
 intro hn
 have s1:=(Sub.refl g).new hn (some (.cells (Xr c) .exact))
 have x1:upd g n (some (.cells (Xr c) .exact)) n=some (.cells (Xr c) .exact):=Xa _ _ _
 generalize upd g n (some (.cells (Xr c) .exact))=g1 at s1 x1 ⊢
 have wk: ∀g' n',Jc K (.bool true) g' n':=fun g' n'=>Ja (Sub.refl _) (hK _ _)
 refine Xv x1 (by simp [Xr]) ?_
 rw [show ((Xr c).drop 0).take 7=Xr c from rfl]
 have out: ∀(t:Env) (g':G) (n':Nat),t 27= .bool true→Jl AC K t g' n':=by
  intro t g' n' t27
  simp only [Jl,t27]
  exact Xi rfl (JbY wk)
 refine ZeA c (fun g2 n2 s2=>Jbs (JA (fun _=>out _ _ _ rfl) (fun hg=> ?_)))
 have hgood:XcD c=true:=by simpa using hg
 have hc:=JeI hgood
 have x2:=s2.live x1
 refine Xb x2 (show (Xr c)[0+1]? =some (.int .i64 c.lines) from rfl) (Xgk (QD (fun _=>out _ _ _ rfl) (fun hl12=> ?_)))
 refine ((h1.mono s1).mono s2).len (Xgk ?_)
 have j1: ∀(t:Env),t 1=v1→t 2=ptr n 0→t 27= .bool (decide ((12:Int)<(steps.length:Nat)))→Jl AC K t g2 n2:=by
  intro t t1 t2 t27
  simp only [Jl,t27,t2,Jb]
  refine QD (fun _=>JbY wk) (fun hlen=> ?_)
  refine Xv x2 (by simp [Xr]) ?_
  rw [show ((Xr c).drop 0).take 7=Xr c from rfl]
  refine Qdm c (img:=[]) Sl.nil (fun hb=>absurd ⟨hgood,.inl rfl⟩ hb) (fun _ _ l o5 g5 n5 W5 u5 h5=> ?_)
  refine Zgs rfl (Zgs rfl (Qcg (Qd (decide_eq_false (fun e=>e rfl)) (XbY ?_))))
  have j2: ∀(t':Env),t' 1=v1→t' 2=ptr n 0→t' 5=ptr l 0→t' 39= .bool false→QC AC K t' g5 n5:=by
   intro t' q1 q2 q5 q39
   simp only [QC,q39]
   refine Qd rfl ?_
   have hs5:Sl Xu 5 (unc o5 g5) v1 steps:=((h1.mono s1).mono s2).mono u5
   have x5:unc o5 g5 n=some (.cells (Xr c) .exact):=u5.live x2
   refine QY (m:=steps.length) (Inv:=fun m t9 g9 n9=> ∃j:Nat,m+j=steps.length∧Qfo (unc o5 g5) n l v1 c j t9 g9) ?_ ⟨0,by omega,o5,W5,_,_,Sub.refl _,h5,Jgk hc,rfl,q1,q2,q5,rfl⟩
   rintro I m t9 g9 n9 ih ⟨j,hm,hh⟩
   exact Qfm hc (by omega) hs5 (by omega) hK (fun hlt t' g' n' hh'=>ih (m-1) t' g' n' (by omega) ⟨j+1,by omega,hh'⟩) x5 hh (by omega)
  exact j2 _ t1 t2 rfl rfl
 exact j1 _ rfl rfl rfl
end Go.Proofs.YtmchcjaomcdbmaaGreat.Gen
namespace Go.Proofs.YtmchcjaomcdbmaaGreat.Gen
open Go Go.Proofs.YtmchcjaomcdbmaaGreat.Abs Go.RowKit
variable {g:G} {n:Nat}
theorem Jc4 {args:List Value} (hr:XdV g [(true,[.i .i64,.i .i64,.i .i64,.i .i64,.i .i64,.i .i64,.i .i64]),(false,[.s [.i .i64,.i .i64,.i .i64,.i .i64,.i .u64]])] args) {K:Cont} (hK: ∀g' n',K (.bool true) g' n'):AC QO args g n K:=by
 obtain ⟨c,v2,steps,rfl,hs⟩:=Xfl hr
 exact Zeo c hs hK
end Go.Proofs.YtmchcjaomcdbmaaGreat.Gen
