import Derived.Test.YtmchcjaomcdbmaaGreatSpecMesiDropsC
/- What the functions come to. -/
set_option linter.all false
set_option linter.deprecated false
namespace Go.Proofs.YtmchcjaomcdbmaaGreat.Gen
open Go Go.Proofs.YtmchcjaomcdbmaaGreat.Abs Go.RowKit
section
variable {S:Sys} {q k l:Nat} {Vs:Nat→Ln} {U X Y:Nat→Prop}
theorem Sys.Qs.iff {U' X' Y':Nat→Prop} (h:S.Qs l U X Y) (hu: ∀i,U' i↔U i) (hx: ∀i,X' i↔X i) (hy: ∀i,Y' i↔Y i):S.Qs l U' X' Y':=⟨fun j N hN=>by
 obtain ⟨a,b,c⟩:=h.nd j N hN
 exact ⟨a.iff (hu j),b.iff (hx j),c.iff (hy j)⟩,h.oth⟩
theorem Sys.Qs.same {T:Sys} (h:S.Qs l U X Y) (hn:T.nodes=S.nodes) (hd:T.dir=S.dir):T.Qs l U X Y:=⟨fun j N hN=>h.nd j N (by rw [←hn];exact hN),fun l' E hE=>h.oth l' E (by rw [←hd];exact hE)⟩
theorem Qcw (line:Int): ∀(l:List Snd) (S:Sys),(S.sends line l).nodes.length=S.nodes.length
 | [],_=>rfl
 | x::l,S=>(Qcw line l (S.send1 line x)).trans (by unfold Sys.send1;split<;>simp [Sys.setN])
theorem ZbJ {j:Nat} (h:j<S.nodes.length): ∃N,S.nodes[j]? =some N:=⟨_,List.getElem?_eq_getElem h⟩
theorem XeR (h:S.P1 l X Y) (p:S.pr 1 k Vs) (hk:k<100000) {j:Nat} (hx:X j):
  (S.hear (j:Nat)).1.P1 l (fun i=>X i∧i≠j) (fun i=>Y i∨i=j)∧(S.hear (j:Nat)).1.pr 1 (k+1) Vs:=by
 obtain ⟨E,hE,hb,hnz,hX,hW⟩:=h.e
 obtain ⟨N,hN⟩:=ZbJ (h.lt j (.inl hx))
 obtain ⟨a,b,c⟩:=h.qs.nd j N hN
 obtain ⟨m,hd,hm⟩:=b.one hx
 have ha:=c.nil (h.xy j hx)
 obtain ⟨⟨y,e1,e2,e3⟩,_,_⟩:=JcW p hk hN hE hd ha hm (hX j (.inl hx))
 have e:(S.hear (j:Nat)).1=S.setN j { N with A:=(N.A.hear m).2.1,dn:=[],ans:=[y] }:=by
  unfold Sys.hear;rw [Sys.at_of hN];simp only;rw [hd];simp only;rw [e1,ha]
  show S.setN j { N with A:=(N.A.hear m).2.1,dn:=[],ans:=(Qab [] y).1 }=_
  rw [Zay e3 (by simp)];rfl
 have pp:=(ZeV p (by decide) hk (j:Nat)).1
 rw [e] at pp ⊢
 have q1:(S.setN j { N with A:=(N.A.hear m).2.1,dn:=[],ans:=[y] }).Qs l no (fun i=>X i∧i≠j) (fun i=>Y i∨i=j):=
  h.qs.setN hN ⟨a,.no (fun a=>a.2 rfl),.yes (.inr rfl) e2⟩ (fun i hi=>⟨Iff.rfl,⟨fun a=>a.1,fun a=>⟨a,hi⟩⟩,⟨fun a=>a.elim id (fun a=>absurd a hi),.inl⟩⟩)
 refine ⟨⟨q1,fun i x y=> ?_,fun i hi=> ?_,E,hE,hb,hnz,fun i hi=> ?_,fun i hi=> ?_⟩,q1.small pp⟩
 ·rcases y with y|y
  ·exact h.xy i x.1 y
  ·exact x.2 y
 ·show i<(S.nodes.set j _).length
  rw [List.length_set]
  rcases hi with hi|hi|hi
  ·exact h.lt i (.inl hi.1)
  ·exact h.lt i (.inr hi)
  ·rw [hi];exact h.lt j (.inl hx)
 ·rcases hi with hi|hi|hi
  ·exact hX i (.inl hi.1)
  ·exact hX i (.inr hi)
  ·rw [hi];exact hX j (.inl hx)
 ·obtain ⟨w,rfl,hw⟩:=hW i hi
  refine ⟨w,rfl,?_⟩
  by_cases e:w=j
  ·exact .inr (.inr e)
  ·exact hw.imp (fun a=>⟨a,e⟩) .inl
theorem Qb5 {i:Nat} (h:S.P3 l i) (p:S.pr 1 k Vs) (hk:k<100000):(S.hear (i:Nat)).1.calm∧(S.hear (i:Nat)).1.pr 1 (k+1) Vs:=by
 obtain ⟨N,hN⟩:=ZbJ h.lt
 obtain ⟨a,b,c⟩:=h.qs.nd i N hN
 obtain ⟨m,hd,hm⟩:=b.one rfl
 have ha:=c.nil id
 have hml:0≤m.line∧m.line<S.c.lines:=(p.wf.nd i N hN).dn.2 m (by rw [hd];simp)
 have hdl:=p.wf.dir
 obtain ⟨E,hE⟩: ∃E,S.dir[l]? =some E:=⟨_,List.getElem?_eq_getElem (by omega)⟩
 have e1:=Xe8 p hk hN hE hd ha hm (h.bz E hE)
 have e:(S.hear (i:Nat)).1=S.setN i { N with A:=(N.A.hear m).2.1,dn:=[],ans:=[] }:=by
  unfold Sys.hear;rw [Sys.at_of hN];simp only;rw [hd];simp only;rw [e1,ha];rfl
 have pp:=(ZeV p (by decide) hk (i:Nat)).1
 rw [e] at pp ⊢
 have q1:(S.setN i { N with A:=(N.A.hear m).2.1,dn:=[],ans:=[] }).Qs l no no no:=
  h.qs.setN hN ⟨a,.no id,.no id⟩ (fun j hj=>⟨Iff.rfl,⟨fun a=>a.elim,fun a=>absurd a hj⟩,Iff.rfl⟩)
 exact ⟨q1.calm h.bz,q1.small pp⟩
theorem XdX (h:S.Qs l no no no) {E':Ent} (hE:l<S.dir.length) (hb:E'.busy=0) {w:Nat} (hw:w<S.nodes.length) {y:Ms} (hy:Xy (QI (l:Nat) y)=true):
  ((S.setE l E').sends (l:Nat) [⟨(w:Nat),y⟩]).P3 l w:=by
 obtain ⟨r1,r2,r3,r4⟩:=ZB (l:Nat) [⟨(w:Nat),y⟩] (S.setE l E')
 have q3:=(h.setE E').sends (out:=[⟨(w:Nat),y⟩]) (Z:=(· =w)) (fun i hi=>⟨y,by subst hi;rw [Q9,if_pos rfl],hy⟩) (fun i hi=>by rw [Q9,if_neg (fun a=>hi (by omega))]) (fun _ _ h=>h)
 refine ⟨q3.iff (fun _=>Iff.rfl) (fun i=>⟨.inr,fun a=>a.elim (fun a=>a.elim) id⟩) (fun _=>Iff.rfl),fun E hE'=> ?_,?_⟩
 ·rw [r1] at hE'
  have:(S.dir.set l E')[l]? =some E:=hE'
  rw [List.getElem?_set_self hE] at this
  cases this;exact hb
 ·rw [Qcw];exact hw
theorem QeA {E:Ent} (h:E.busy=1∨E.busy=2) (line:Int): ∃y,(Mov.goes ⟨E,line,[]⟩).out=[⟨E.who,y⟩]∧(Mov.goes ⟨E,line,[]⟩).e.busy=0:=by
 unfold Mov.goes
 by_cases b:E.busy=1
 ·rw [if_pos b];exact ⟨_,rfl,rfl⟩
 ·rw [if_neg b,if_pos (h.resolve_left b)];exact ⟨_,rfl,rfl⟩
theorem Qev {E:Ent} (h:E.busy=4∨E.busy=5) (line:Int):Mov.goes ⟨E,line,[]⟩=⟨E,line,[]⟩:=by
 unfold Mov.goes
 rw [if_neg (by show ¬E.busy=1;omega),if_neg (by show ¬E.busy=2;omega)]
theorem QdD (h:S.P1 l X Y) (p:S.pr 1 k Vs) {j:Nat} (hy:Y j): ∃N m E,S.nodes[j]? =some N∧N.ans=[m]∧S.dir[l]? =some E∧m.line=(l:Nat)∧(S.answer (j:Nat)).1=((S.setN j { N with ans:=[] }).setE l (Ji E (j:Nat) m).1).sends (l:Nat) (Ji E (j:Nat) m).2.1∧
  Ji E (j:Nat) m=(if nz (E.lose (j:Nat) m).wait=true then (E.lose (j:Nat) m,[],0) else ((Mov.goes ⟨E.lose (j:Nat) m,m.line,[]⟩).e,(Mov.goes ⟨E.lose (j:Nat) m,m.line,[]⟩).out,0)):=by
 obtain ⟨E,hE,hb,hnz,hX,hW⟩:=h.e
 have hjl:=h.lt j (.inr hy)
 obtain ⟨N,hN⟩:=ZbJ hjl
 obtain ⟨a,b,c⟩:=h.qs.nd j N hN
 obtain ⟨m,ha,hm⟩:=c.one hy
 have hi:((j:Nat):Int)<S.c.cores:=by have:=p.wf.nodes;omega
 have hA:S.aV l (j:Nat)=[m]:=by
  unfold Sys.aV
  rw [Xal hN,ha,JfV hm]
 have hg:=((p.qu j N hN).ans m (by rw [ha];simp)).1
 obtain ⟨_,a1,a2⟩:=QcL (p.line l E hE).ei (Xcp p.wf) (by omega) hi hg (p.line l E hE).cv hA
 have hent:S.ent m.line=some (l,E):=by rw [hm];exact Sys.ent_of hE
 refine ⟨N,m,E,hN,ha,hE,hm,?_,?_⟩
 ·unfold Sys.answer;rw [Sys.at_of hN];simp only;rw [ha];simp only;rw [hent];simp only;rw [if_neg (fun q=>q a1),hm]
 ·unfold Ji at a1 ⊢
  split
  ·rename_i c1;rw [if_pos c1] at a1;exact absurd a1 (show ¬(1:Int)=0 by decide)
  ·rename_i c1
   rw [if_neg c1] at a1
   split
   ·rename_i c2;rw [if_pos c2] at a1;exact absurd a1 (show ¬(16:Int)=0 by decide)
   ·rfl
theorem Jfj (h:S.P1 l X Y) (p:S.pr 1 k Vs) (hk:k<100000) {j:Nat} (hy:Y j):
  ((S.answer (j:Nat)).1.P1 l X (fun i=>Y i∧i≠j)∨(S.answer (j:Nat)).1.P2 l∨ ∃i,(S.answer (j:Nat)).1.P3 l i)∧(S.answer (j:Nat)).1.pr 1 (k+1) Vs:=by
 obtain ⟨N,m,E,hN,ha,hE,hm,e,hs⟩:=QdD h p hy
 obtain ⟨E',hE',hb,hnz,hX,hW⟩:=h.e
 rw [hE] at hE';cases hE'
 obtain ⟨a,b,c⟩:=h.qs.nd j N hN
 have hxn: ¬X j:=fun x=>h.xy j x hy
 have pp:=(Jfl p (by decide) hk (j:Nat)).1
 obtain ⟨l1,l2,l3,l4,l5,l6,l7,l8⟩:=XcZ E (j:Nat) m
 have hml:0≤m.line∧m.line<S.c.lines:=(p.wf.nd j N hN).ans.2 m (by rw [ha];simp)
 have hlines:=p.wf.c.lines
 have hF:OutF m.line (Ji E (j:Nat) m).2.1:=XcJ ⟨hml.1,by omega⟩
 have hok:=hF.ok
 have q1:(S.setN j { N with ans:=[] }).Qs l no X (fun i=>Y i∧i≠j):=
  h.qs.setN hN ⟨a,b,.no (fun a=>a.2 rfl)⟩ (fun i hi=>⟨Iff.rfl,Iff.rfl,⟨fun a=>a.1,fun a=>⟨a,hi⟩⟩⟩)
 have hlen:(S.setN j { N with ans:=[] }).nodes.length=S.nodes.length:=List.length_set
 by_cases hw:nz (E.lose (j:Nat) m).wait=true
 ·rw [if_pos hw] at hs
  rw [e,hs] at pp ⊢
  have q2:=q1.setE (E.lose (j:Nat) m)
  refine ⟨.inl ⟨q2,fun i x y=>h.xy i x y.1,fun i hi=> ?_,E.lose (j:Nat) m,List.getElem?_set_self (Qd hE),by rw [l2];exact hb,hw,fun i hi=> ?_,fun i hi=> ?_⟩,q2.small pp⟩
  ·show i<(S.setN j { N with ans:=[] }).nodes.length
   rw [hlen];exact h.lt i (hi.imp id And.left)
  ·rw [l4,Xac,hX i (hi.imp id And.left)]
   have:j≠i:=by
    rcases hi with x|y
    ·intro e;subst e;exact hxn x
    ·exact fun e=>y.2 e.symm
   simpa using fun a=>this (by omega)
  ·rw [l4,Xac,Bool.and_eq_true] at hi
   obtain ⟨w,rfl,hw⟩:=hW i hi.1
   refine ⟨w,rfl,hw.imp id (fun y=>⟨y,fun e=> ?_⟩)⟩
   subst e
   have:=hi.2
   simp at this
 ·rw [if_neg hw] at hs
  have hX0: ∀i,X i∨(Y i∧i≠j)→False:=fun i hi=>hw (nz_has.2 ⟨(i:Nat),by
   rw [l4,Xac,hX i (hi.imp id And.left)]
   have:j≠i:=by
    rcases hi with x|y
    ·intro e;subst e;exact hxn x
    ·exact fun e=>y.2 e.symm
   simpa using fun a=>this (by omega)⟩)
  have q2:(S.setN j { N with ans:=[] }).Qs l no no no:=q1.iff (fun _=>Iff.rfl) (fun i=>⟨fun a=>a.elim,fun a=>hX0 i (.inl a)⟩) (fun i=>⟨fun a=>a.elim,fun a=>hX0 i (.inr a)⟩)
  have ge:=QaU (p.line l E hE).ei
  have hwho:=(p.line l E hE).ei.who hb
  obtain ⟨hbk,hw0,_⟩:=ge.b1 hb
  by_cases hb1:E.busy=1∨E.busy=2
  ·obtain ⟨y,g1,g2⟩:=QeA (E:=E.lose (j:Nat) m) (by rw [l2];exact hb1) m.line
   obtain ⟨w,hw'⟩: ∃w:Nat,E.who=(w:Nat):=⟨E.who.toNat,by omega⟩
   rw [l3,hw'] at g1
   rw [hs] at hok
   rw [e,hs] at pp ⊢
   simp only at pp hok ⊢
   rw [g1] at pp hok ⊢
   have h3:=XdX (E':=(Mov.goes ⟨E.lose (j:Nat) m,m.line,[]⟩).e) (S:=S.setN j { N with ans:=[] }) q2 (Qd hE) g2 (w:=w) (by rw [hlen];have:=p.wf.nodes;omega) (by rw [←hm];exact (hok _ (List.mem_singleton.2 rfl)).1)
   exact ⟨.inr (.inr ⟨w,h3⟩),h3.qs.small pp⟩
  ·have hb4:E.busy=4∨E.busy=5:=by omega
   rw [Qev (by rw [l2];exact hb4)] at hs
   rw [e,hs] at pp ⊢
   have q3:=q2.setE (E.lose (j:Nat) m)
   exact ⟨.inr (.inl ⟨q3,E.lose (j:Nat) m,List.getElem?_set_self (Qd hE),by rw [l2];exact hb4,by simpa using hw⟩),q3.small pp⟩
theorem Xbo (G:Ent) (line b i:Int) (c:ZaO) (kind:Int):(Mov.wait ⟨G,line,[]⟩ b i c kind).e={ G with busy:=b,who:=i,wait:=c }∧ ∃y,(Mov.wait ⟨G,line,[]⟩ b i c kind).out=(Zaa c).map fun to=>(⟨to,y⟩:Snd):=by
 obtain ⟨a,e⟩:=Jap kind (Zaa c) ⟨{ G with busy:=b,who:=i,wait:=c },line,[]⟩
 exact ⟨a,_,e.trans (List.nil_append _)⟩
def ZgP (G E':Ent) (out:List Snd) (i:Int) (x:Ms):Prop:=
 (∃y,out=[⟨i,y⟩]∧E'.busy=0∧x.kind≤3)∨ ∃b c y,(((b=1∨b=2)∧x.kind≤2)∨(b=4∧c=Q8 G.owner)∨(b=5∧c=G.holders))∧E'={ G with busy:=b,who:=i,wait:=c }∧out=(Zaa c).map fun to=>(⟨to,y⟩:Snd)
theorem JdR {G:Ent} (hb:G.busy=0) (line i:Int) {x:Ms} (hx:1≤x.kind∧x.kind≤5):ZgP G (Mov.asked ⟨G,line,[]⟩ i x).e (Mov.asked ⟨G,line,[]⟩ i x).out i x:=by
 unfold Mov.asked
 split
 ·unfold Mov.getS
  split
  ·obtain ⟨a,y,e⟩:=Xbo G line 1 i (Q8 G.owner) 13
   exact .inr ⟨_,_,y,.inl ⟨.inl rfl,by omega⟩,a,e⟩
  ·split
   ·exact .inl ⟨_,rfl,hb,by omega⟩
   ·exact .inl ⟨_,rfl,hb,by omega⟩
 split
 ·unfold Mov.getM
  split
  ·exact .inl ⟨_,rfl,hb,by omega⟩
  ·obtain ⟨a,y,e⟩:=Xbo G line 2 i (G.holders &&& ~~~(Q8 i)) 12
   exact .inr ⟨_,_,y,.inl ⟨.inr rfl,by omega⟩,a,e⟩
 split
 ·refine .inl ⟨_,rfl,?_,by omega⟩
  show (if G.owner=i then Ent.take { G with owner:= -1 } x else { G with share:=G.share &&& ~~~(Q8 i) }).busy=0
  split
  ·unfold Ent.take
   split<;>exact hb
  ·exact hb
 split
 ·obtain ⟨a,y,e⟩:=Xbo G line 4 i (Q8 G.owner) 13
  exact .inr ⟨_,_,y,.inr (.inl ⟨rfl,rfl⟩),a,e⟩
 ·obtain ⟨a,y,e⟩:=Xbo G line 5 i G.holders 12
  exact .inr ⟨_,_,y,.inr (.inr ⟨rfl,rfl⟩),a,e⟩
theorem ZfF {i:Nat} (h:S.P0 l i) (p:S.pr 1 k Vs): ∃N m E,S.nodes[i]? =some N∧N.up=[m]∧S.dir[l]? =some E∧m.line=(l:Nat)∧(S.up (i:Nat)).1=(((S.setE l (S.got l E)).setN i { N with up:=[] }).setE l (Xax (S.got l E) (i:Nat) m).1).sends (l:Nat) (Xax (S.got l E) (i:Nat) m).2.1∧
  Xax (S.got l E) (i:Nat) m=((Mov.asked ⟨S.got l E,m.line,[]⟩ (i:Nat) m).e,(Mov.asked ⟨S.got l E,m.line,[]⟩ (i:Nat) m).out,0)∧(S.got l E).busy=0∧(1≤m.kind∧m.kind≤5)∧EI S.c.cores (Xax (S.got l E) (i:Nat) m).1 (Vs l) (QT S.q S.D (l:Nat)):=by
 obtain ⟨N,hN⟩:=ZbJ h.lt
 obtain ⟨a,b,c⟩:=h.qs.nd i N hN
 obtain ⟨m,hu,hm⟩:=a.one rfl
 have hml:0≤m.line∧m.line<S.c.lines:=(p.wf.nd i N hN).up.2 m (by rw [hu];simp)
 have hdl:=p.wf.dir
 obtain ⟨E,hE⟩: ∃E,S.dir[l]? =some E:=⟨_,List.getElem?_eq_getElem (by omega)⟩
 obtain ⟨hg,hak⟩:=(p.qu i N hN).up m (by rw [hu];simp)
 have hent:S.ent m.line=some (l,E):=by rw [hm];exact Sys.ent_of hE
 have hb:=h.bz E hE
 have hL:=p.line l E hE
 have hi:((i:Nat):Int)<S.c.cores:=by have:=h.lt;have:=p.wf.nodes;omega
 have hgot:EI S.c.cores (S.got l E) (Vs l) (QT S.q S.D (l:Nat))∧QaO S.c.cores (S.got l E) (Vs l) (S.sV l) (S.dV l) (S.uV l) (S.nV l) (S.aV l)∧(S.got l E).busy=0:=by
  unfold Sys.got
  split
  ·exact ⟨hL.ei,hL.cv,hb⟩
  ·rename_i hh
   obtain ⟨a,b⟩:=Qcr hL.ei (by simpa using hh) hL.cv
   exact ⟨a,b,hb⟩
 obtain ⟨g1,g2,g3⟩:=hgot
 have hU:S.uV l (i:Nat)=if m.kind≤3 then m::[] else []:=by
  unfold Sys.uV
  rw [Xal hN,hu,Jcl]
  by_cases hk3:m.kind≤3
  ·rw [if_pos ⟨hm,hk3⟩,if_pos hk3];rfl
  ·rw [if_neg (fun a=>hk3 a.2),if_neg hk3];rfl
 obtain ⟨a1,a2⟩:=Zee g1 (Xcp p.wf) g3 (Jc5 S l E) (by omega) hi hg hak g2 hU
 refine ⟨N,m,E,hN,hu,hE,hm,?_,?_,g3,of_decide_eq_true hak,a2.ei⟩
 ·unfold Sys.up;rw [Sys.at_of hN];simp only;rw [hu];simp only;rw [hent];simp only;rw [if_neg (fun a=>a hb),if_neg (fun q=>q a1),Xco S l E hE,hm]
 ·unfold Xax at a1 ⊢
  split
  ·rename_i c1;rw [if_pos c1] at a1;exact absurd a1 (show ¬(1:Int)=0 by decide)
  ·rename_i c1
   rw [if_neg c1] at a1
   split
   ·rename_i c2;rw [if_pos c2] at a1;exact absurd a1 (show ¬(15:Int)=0 by decide)
   ·rename_i c2
    rw [if_neg c2] at a1
    split
    ·rename_i c3;rw [if_pos c3] at a1;exact absurd a1 (show ¬(16:Int)=0 by decide)
    ·rfl
theorem Jgh {i:Nat} (h:S.P0 l i) (p:S.pr 1 k Vs) (hk:k<100000):
  ((∃X,(S.up (i:Nat)).1.P1 l X no)∨(S.up (i:Nat)).1.P2 l∨(S.up (i:Nat)).1.P3 l i)∧(S.up (i:Nat)).1.pr 1 (k+1) Vs:=by
 obtain ⟨N,m,E,hN,hu,hE,hm,e,hs,hb,hkd,ei⟩:=ZfF h p
 obtain ⟨a,b,c⟩:=h.qs.nd i N hN
 have pp:=(QgD p (by decide) hk (i:Nat)).1
 have hml:0≤m.line∧m.line<S.c.lines:=(p.wf.nd i N hN).up.2 m (by rw [hu];simp)
 have hlines:=p.wf.c.lines
 have hF:OutF m.line (Xax (S.got l E) (i:Nat) m).2.1:=Qei ⟨hml.1,by omega⟩
 have hok:=hF.ok
 have hsh:=JdR hb m.line (i:Nat) hkd
 have q0:(S.setE l (S.got l E)).Qs l (· =i) no no:=h.qs.setE _
 have q1:((S.setE l (S.got l E)).setN i { N with up:=[] }).Qs l no no no:=
  q0.setN hN ⟨.no id,b,c⟩ (fun j hj=>⟨⟨fun a=>a.elim,fun a=>absurd a hj⟩,Iff.rfl,Iff.rfl⟩)
 have hlen:((S.setE l (S.got l E)).setN i { N with up:=[] }).nodes.length=S.nodes.length:=List.length_set
 have hdlen:l<((S.setE l (S.got l E)).setN i { N with up:=[] }).dir.length:=by
  show l<(S.dir.set l _).length
  rw [List.length_set];exact Qd hE
 have nl:=p.wf.nodes
 rw [e,hs] at pp ⊢
 rw [hs] at hok ei
 simp only at pp hok ei ⊢
 generalize (Mov.asked ⟨S.got l E,m.line,[]⟩ (i:Nat) m).e=E' at*
 generalize (Mov.asked ⟨S.got l E,m.line,[]⟩ (i:Nat) m).out=out at*
 rcases hsh with ⟨y,rfl,h0,_⟩|⟨bb,cc,y,hbb,rfl,rfl⟩
 ·have h3:=XdX (E':=E') (S:=(S.setE l (S.got l E)).setN i { N with up:=[] }) q1 hdlen h0 (w:=i) (by rw [hlen];exact h.lt) (by rw [←hm];exact (hok _ (List.mem_singleton.2 rfl)).1)
  exact ⟨.inr (.inr h3),h3.qs.small pp⟩
 ·obtain ⟨r1,r2,r3,r4⟩:=ZB (l:Nat) ((Zaa cc).map fun to=>(⟨to,y⟩:Snd)) (((S.setE l (S.got l E)).setN i { N with up:=[] }).setE l { S.got l E with busy:=bb,who:=(i:Nat),wait:=cc })
  have ge:=QaU ei
  have hdir:(((S.setE l (S.got l E)).setN i { N with up:=[] }).setE l { S.got l E with busy:=bb,who:=(i:Nat),wait:=cc }).dir[l]? =some { S.got l E with busy:=bb,who:=(i:Nat),wait:=cc }:=List.getElem?_set_self hdlen
  by_cases hz:nz cc=true
  ·have q2:=(q1.setE { S.got l E with busy:=bb,who:=(i:Nat),wait:=cc }).sends (out:=(Zaa cc).map fun to=>(⟨to,y⟩:Snd)) (Z:=fun j=>Zt cc (j:Nat)=true) (fun j hj=>⟨y,by rw [Qav,if_pos hj],by
    rw [←hm]
    exact (hok ⟨(j:Nat),y⟩ (List.mem_map.2 ⟨(j:Nat),mem_cores.2 hj,rfl⟩)).1⟩) (fun j hj=>by rw [Qav,if_neg hj]) (fun _ _ h=>h)
   refine ⟨.inl ⟨fun j=>Zt cc (j:Nat)=true,⟨q2.iff (fun _=>Iff.rfl) (fun j=>⟨.inr,fun a=>a.elim (fun a=>a.elim) id⟩) (fun _=>Iff.rfl),fun _ _ h=>h,fun j hj=> ?_,_,by rw [r1];exact hdir,?_,hz,fun j hj=>hj.elim id (fun a=>a.elim),fun j hj=> ?_⟩⟩,q2.small pp⟩
   ·rw [Qcw]
    show j<((S.setE l (S.got l E)).setN i { N with up:=[] }).nodes.length
    rw [hlen]
    have hj':Zt cc (j:Nat)=true:=hj.elim id (fun a=>a.elim)
    rcases ge.st (j:Nat) hj' with s|s
    ·have:=ei.shr (j:Nat) s;omega
    ·have:=ei.own;have s':(S.got l E).owner=(j:Nat):=s;have t:(S.got l E).owner<S.c.cores:=this;omega
   ·show bb≠0;omega
   ·have hr:=ZaV hj
    exact ⟨j.toNat,by omega,.inl (by rw [show ((j.toNat:Nat):Int)=j by omega];exact hj)⟩
  ·have hz':nz cc=false:=by simpa using hz
   have h45:bb=4∨bb=5:=by
    have n12: ¬(bb=1∨bb=2):=fun a=>hz (nz_has.2 (ge.b2 a))
    omega
   have q2:=(q1.setE { S.got l E with busy:=bb,who:=(i:Nat),wait:=cc }).sends (out:=(Zaa cc).map fun to=>(⟨to,y⟩:Snd)) (Z:=no) (fun j hj=>hj.elim) (fun j _=>by rw [Qav,if_neg (by rw [nz_no.1 hz'];decide)]) (fun _ h _=>h)
   refine ⟨.inr (.inl ⟨q2.iff (fun _=>Iff.rfl) (fun j=>⟨fun a=>a.elim,fun a=>a.elim id id⟩) (fun _=>Iff.rfl),_,by rw [r1];exact hdir,h45,hz'⟩),q2.small pp⟩
end
end Go.Proofs.YtmchcjaomcdbmaaGreat.Gen
namespace Go.Proofs.YtmchcjaomcdbmaaGreat.Gen
open Go Go.Proofs.YtmchcjaomcdbmaaGreat.Abs Go.RowKit
def Sys.st (S:Sys) (j:Nat):Sys:=(((S.up (j:Nat)).1.answer (j:Nat)).1.hear (j:Nat)).1
def Sys.wr (S:Sys) (l:Nat):Sys:=((S.push (l:Nat)).1.drain (l:Nat)).1
def JG (n:Nat) (S:Sys):Sys:=(List.range n).foldl Sys.st S
def Qak (n:Nat) (S:Sys):Sys:=(List.range n).foldl Sys.wr S
def Sys.round (S:Sys):Sys:=Qak S.c.lines.toNat (JG S.c.cores.toNat S)
def Zh:Nat→Sys→Sys
 | 0,S=>S
 | r+1,S=>Zh r S.round
structure Keep (l ia:Nat) (Vs:Nat→Ln) (T Tc:Sys→Prop):Prop where
 up: ∀{S:Sys} {k:Nat},S.P0 l ia→S.pr 1 k Vs→k<100000→T S→T (S.up (ia:Nat)).1
 ans: ∀{S:Sys} {X Y:Nat→Prop} {j k:Nat},S.P1 l X Y→S.pr 1 k Vs→k<100000→Y j→T S→T (S.answer (j:Nat)).1
 hear: ∀{S:Sys} {X Y:Nat→Prop} {j k:Nat},S.P1 l X Y→S.pr 1 k Vs→k<100000→X j→T S→T (S.hear (j:Nat)).1
 wr: ∀{S:Sys} {k:Nat},S.P2 l→S.q=[]→S.pr 1 k Vs→k<100000→T S→T (S.wr l)
 told: ∀{S:Sys} {i k:Nat},S.P3 l i→S.pr 1 k Vs→k<100000→T S→Tc (S.hear (i:Nat)).1
def R3 (l:Nat) (T Tc:Sys→Prop) (S:Sys):Prop:=(∃i,S.P3 l i∧T S)∨(S.calm∧Tc S)
def Fi (l:Nat) (T Tc:Sys→Prop) (S:Sys):Prop:=(S.P2 l∧T S)∨R3 l T Tc S
theorem QgL (S:Sys) (i:Int):(S.up i).1.c=S.c:=ZfT S ⟨4,i,0,0,0⟩
theorem ZfL (S:Sys) (i:Int):(S.answer i).1.c=S.c:=ZfT S ⟨5,i,0,0,0⟩
theorem JfR (S:Sys) (i:Int):(S.hear i).1.c=S.c:=ZfT S ⟨6,i,0,0,0⟩
theorem Xgm (S:Sys) (i:Int):(S.push i).1.c=S.c:=ZfT S ⟨7,0,i,0,0⟩
theorem ZfX (S:Sys) (i:Int):(S.drain i).1.c=S.c:=ZfT S ⟨10,0,i,0,0⟩
theorem QgN (S:Sys) (j:Nat):(S.st j).c=S.c:=(JfR _ _).trans ((ZfL _ _).trans (QgL _ _))
theorem QgO (S:Sys) (j:Nat):(S.wr j).c=S.c:=(ZfX _ _).trans (Xgm _ _)
theorem XV (n:Nat) (S:Sys):JG (n+1) S=(JG n S).st n:=by unfold JG;rw [List.range_succ,List.foldl_append];rfl
theorem X7 (n:Nat) (S:Sys):Qak (n+1) S=(Qak n S).wr n:=by unfold Qak;rw [List.range_succ,List.foldl_append];rfl
theorem Zcq (S:Sys): ∀n,(JG n S).c=S.c
 | 0=>rfl
 | n+1=>by rw [XV,QgN];exact Zcq S n
theorem Jee (S:Sys): ∀n,(Qak n S).c=S.c
 | 0=>rfl
 | n+1=>by rw [X7,QgO];exact Jee S n
theorem QgM (S:Sys) (i:Int):(S.up i).1.q=S.q:=by
 unfold Sys.up
 split
 ·rfl
 ·split
  ·rfl
  ·split
   ·rfl
   ·have hh: ∀j e,(S.here j e).q=S.q:=fun j e=>by unfold Sys.here;split<;>rfl
    split
    ·rfl
    ·split
     ·exact hh _ _
     ·rw [(ZB _ _ _).2.1];exact hh _ _
theorem XfI (S:Sys) (i:Int):(S.answer i).1.q=S.q:=by
 unfold Sys.answer
 split
 ·rfl
 ·split
  ·rfl
  ·split
   ·rfl
   ·split
    ·rfl
    ·rw [(ZB _ _ _).2.1];rfl
theorem QfM (S:Sys) (i:Int):(S.hear i).1.q=S.q:=by
 unfold Sys.hear
 split
 ·rfl
 ·split<;>rfl
theorem XgO (S:Sys) (j:Nat):(S.st j).q=S.q:=(QfM _ _).trans ((XfI _ _).trans (QgM _ _))
theorem Xcm (S:Sys): ∀n,(JG n S).q=S.q
 | 0=>rfl
 | n+1=>by rw [XV,XgO];exact Xcm S n
theorem Xcs (S:Sys):S.round.c=S.c:=(Jee _ _).trans (Zcq _ _)
section
variable {S:Sys} {k l ia:Nat} {Vs:Nat→Ln} {X Y:Nat→Prop} {T Tc:Sys→Prop}
theorem Xeg {j:Nat} (hu: ∀N,S.nodes[j]? =some N→N.up=[]) (ha: ∀N,S.nodes[j]? =some N→N.ans=[]):S.st j=(S.hear (j:Nat)).1:=by
 unfold Sys.st
 rw [XfN hu,Zcs ha]
theorem XaN {U:Nat→Prop} {j:Nat} (h:S.Qs l U X Y) (hu: ¬U j) (hx: ¬X j) (hy: ¬Y j):S.st j=S:=by
 rw [Xeg (fun N hN=>(h.nd j N hN).1.nil hu) (fun N hN=>(h.nd j N hN).2.2.nil hy),Jbr (fun N hN=>(h.nd j N hN).2.1.nil hx)]
theorem Xgl (K:Keep l ia Vs T Tc) (h:S.P1 l X Y) (p:S.pr 1 k Vs) (hk:k+3<100000) (ht:T S) (j:Nat):
  ((∃X' Y',(S.st j).P1 l X' Y'∧T (S.st j)∧(∀i,X' i→i≠j∧X i)∧(∀i,Y' i→(i≠j∧Y i)∨(i=j∧X i)))∨Fi l T Tc (S.st j))∧(S.st j).pr 1 (k+3) Vs:=by
 have hu: ∀N,S.nodes[j]? =some N→N.up=[]:=fun N hN=>(h.qs.nd j N hN).1.nil id
 by_cases hx:X j
 ·rw [Xeg hu (fun N hN=>(h.qs.nd j N hN).2.2.nil (h.xy j hx))]
  obtain ⟨h1,p1⟩:=XeR h p (by omega) hx
  exact ⟨.inl ⟨_,_,h1,K.hear h p (by omega) hx ht,fun i hi=>⟨hi.2,hi.1⟩,fun i hi=>hi.elim (fun y=> .inl ⟨fun e=>h.xy i (e▸hx) y,y⟩) (fun e=> .inr ⟨e,e▸hx⟩)⟩,p1.le (by omega) (by omega)⟩
 ·by_cases hy:Y j
  ·obtain ⟨h1,p1⟩:=Jfj h p (by omega) hy
   have t1:=K.ans h p (by omega) hy ht
   have e:S.st j=((S.answer (j:Nat)).1.hear (j:Nat)).1:=by unfold Sys.st;rw [XfN hu]
   rw [e]
   rcases h1 with h1|h1|⟨i,h1⟩
   ·rw [Jbr (fun N hN=>(h1.qs.nd j N hN).2.1.nil hx)]
    exact ⟨.inl ⟨X,_,h1,t1,fun i hi=>⟨fun e=>hx (e▸hi),hi⟩,fun i hi=> .inl ⟨hi.2,hi.1⟩⟩,p1.le (by omega) (by omega)⟩
   ·rw [Jbr (fun N hN=>(h1.qs.nd j N hN).2.1.nil id)]
    exact ⟨.inr (.inl ⟨h1,t1⟩),p1.le (by omega) (by omega)⟩
   ·by_cases e':j=i
    ·subst e'
     obtain ⟨h2,p2⟩:=Qb5 h1 p1 (by omega)
     exact ⟨.inr (.inr (.inr ⟨h2,K.told h1 p1 (by omega) t1⟩)),p2.le (by omega) (by omega)⟩
    ·rw [Jbr (fun N hN=>(h1.qs.nd j N hN).2.1.nil e')]
     exact ⟨.inr (.inr (.inl ⟨i,h1,t1⟩)),p1.le (by omega) (by omega)⟩
  ·rw [XaN h.qs id hx hy]
   exact ⟨.inl ⟨X,Y,h,ht,fun i hi=>⟨fun e=>hx (e▸hi),hi⟩,fun i hi=> .inl ⟨fun e=>hy (e▸hi),hi⟩⟩,p.le (by omega) (by omega)⟩
theorem Zgh (K:Keep l ia Vs T Tc) (h:Fi l T Tc S) (p:S.pr 1 k Vs) (hk:k+3<100000) (j:Nat):Fi l T Tc (S.st j)∧(S.st j).pr 1 (k+3) Vs∧(R3 l T Tc S→R3 l T Tc (S.st j)):=by
 have p3:=p.le (Nat.le_refl 1) (show k≤k+3 by omega)
 rcases h with ⟨h,ht⟩|⟨i,h,ht⟩|⟨h,ht⟩
 ·rw [XaN h.qs id id id];exact ⟨.inl ⟨h,ht⟩,p3,id⟩
 ·by_cases e':j=i
  ·subst e'
   rw [Xeg (fun N hN=>(h.qs.nd j N hN).1.nil id) (fun N hN=>(h.qs.nd j N hN).2.2.nil id)]
   obtain ⟨h2,p2⟩:=Qb5 h p (by omega)
   have r:R3 l T Tc (S.hear (j:Nat)).1:= .inr ⟨h2,K.told h p (by omega) ht⟩
   exact ⟨.inr r,p2.le (by omega) (by omega),fun _=>r⟩
  ·rw [XaN h.qs id e' id];exact ⟨.inr (.inl ⟨i,h,ht⟩),p3,id⟩
 ·rw [XaN (h.qs l) id id id];exact ⟨.inr (.inr ⟨h,ht⟩),p3,id⟩
theorem Xee (K:Keep l ia Vs T Tc) (h:S.P1 l X Y) (p:S.pr 1 k Vs) (ht:T S): ∀n:Nat,k+3*n<100000→
  ((∃X' Y',(JG n S).P1 l X' Y'∧T (JG n S)∧(∀i,X' i→n≤i∧X i)∧(∀i,Y' i→(n≤i∧Y i)∨X i))∨Fi l T Tc (JG n S))∧(JG n S).pr 1 (k+3*n) Vs
 | 0,_=>⟨.inl ⟨X,Y,h,ht,fun i hi=>⟨Nat.zero_le _,hi⟩,fun i hi=> .inl ⟨Nat.zero_le _,hi⟩⟩,p⟩
 | n+1,hk=>by
  obtain ⟨h1,p1⟩:=Xee K h p ht n (by omega)
  rw [XV]
  rcases h1 with ⟨X',Y',h1,t1,hX,hY⟩|h1
  ·obtain ⟨h2,p2⟩:=Xgl K h1 p1 (by omega) t1 n
   refine ⟨?_,p2.le (by omega) (by omega)⟩
   rcases h2 with ⟨X2,Y2,h2,t2,hX2,hY2⟩|h2
   ·refine .inl ⟨X2,Y2,h2,t2,fun i hi=> ?_,fun i hi=> ?_⟩
    ·obtain ⟨a,b⟩:=hX2 i hi
     obtain ⟨c,d⟩:=hX i b
     exact ⟨by omega,d⟩
    ·rcases hY2 i hi with ⟨a,b⟩|⟨a,b⟩
     ·rcases hY i b with ⟨c,d⟩|d
      ·exact .inl ⟨by omega,d⟩
      ·exact .inr d
     ·exact .inr (hX i b).2
   ·exact .inr h2
  ·obtain ⟨h2,p2,_⟩:=Zgh K h1 p1 (by omega) n
   exact ⟨.inr h2,p2.le (by omega) (by omega)⟩
theorem Xd4 (K:Keep l ia Vs T Tc) (h:S.P0 l ia) (p:S.pr 1 k Vs) (ht:T S): ∀n:Nat,k+3*n<100000→
  ((n≤ia∧JG n S=S)∨(ia<n∧(∃X' Y',(JG n S).P1 l X' Y'∧T (JG n S)))∨(ia<n∧Fi l T Tc (JG n S)))∧(JG n S).pr 1 (k+3*n) Vs
 | 0,_=>⟨.inl ⟨Nat.zero_le _,rfl⟩,p⟩
 | n+1,hk=>by
  obtain ⟨h1,p1⟩:=Xd4 K h p ht n (by omega)
  rw [XV]
  rcases h1 with ⟨h1,e⟩|⟨hi,X',Y',h1,t1⟩|⟨hi,h1⟩
  ·rw [e] at p1 ⊢
   by_cases e':n=ia
   ·subst e'
    obtain ⟨h2,p2⟩:=Jgh h p1 (by omega)
    have t2:=K.up h p1 (by omega) ht
    have e3:S.st n=((((S.up (n:Nat)).1).answer (n:Nat)).1.hear (n:Nat)).1:=rfl
    rw [e3]
    rcases h2 with ⟨X,h2⟩|h2|h2
    ·rw [Zcs (fun N hN=>(h2.qs.nd n N hN).2.2.nil id)]
     by_cases hx:X n
     ·obtain ⟨h4,p4⟩:=XeR h2 p2 (by omega) hx
      exact ⟨.inr (.inl ⟨by omega,_,_,h4,K.hear h2 p2 (by omega) hx t2⟩),p4.le (by omega) (by omega)⟩
     ·rw [Jbr (fun N hN=>(h2.qs.nd n N hN).2.1.nil hx)]
      exact ⟨.inr (.inl ⟨by omega,_,_,h2,t2⟩),p2.le (by omega) (by omega)⟩
    ·rw [Zcs (fun N hN=>(h2.qs.nd n N hN).2.2.nil id),Jbr (fun N hN=>(h2.qs.nd n N hN).2.1.nil id)]
     exact ⟨.inr (.inr ⟨by omega,.inl ⟨h2,t2⟩⟩),p2.le (by omega) (by omega)⟩
    ·rw [Zcs (fun N hN=>(h2.qs.nd n N hN).2.2.nil id)]
     obtain ⟨h4,p4⟩:=Qb5 h2 p2 (by omega)
     exact ⟨.inr (.inr ⟨by omega,.inr (.inr ⟨h4,K.told h2 p2 (by omega) t2⟩)⟩),p4.le (by omega) (by omega)⟩
   ·rw [XaN h.qs e' id id]
    exact ⟨.inl ⟨by omega,rfl⟩,p1.le (by omega) (by omega)⟩
  ·obtain ⟨h2,p2⟩:=Xgl K h1 p1 (by omega) t1 n
   refine ⟨?_,p2.le (by omega) (by omega)⟩
   rcases h2 with ⟨X2,Y2,h2,t2,_,_⟩|h2
   ·exact .inr (.inl ⟨by omega,X2,Y2,h2,t2⟩)
   ·exact .inr (.inr ⟨by omega,h2⟩)
  ·obtain ⟨h2,p2,_⟩:=Zgh K h1 p1 (by omega) n
   exact ⟨.inr (.inr ⟨by omega,h2⟩),p2.le (by omega) (by omega)⟩
theorem Jeg (K:Keep l ia Vs T Tc) (h:R3 l T Tc S) (p:S.pr 1 k Vs): ∀n:Nat,k+3*n<100000→
  ((∃i,n≤i∧(JG n S).P3 l i∧T (JG n S))∨((JG n S).calm∧Tc (JG n S)))∧(JG n S).pr 1 (k+3*n) Vs
 | 0,_=>⟨h.imp (fun ⟨i,a⟩=>⟨i,Nat.zero_le _,a⟩) id,p⟩
 | n+1,hk=>by
  obtain ⟨h1,p1⟩:=Jeg K h p n (by omega)
  rw [XV]
  rcases h1 with ⟨i,hi,h1,t1⟩|⟨h1,t1⟩
  ·by_cases e':n=i
   ·subst e'
    rw [Xeg (fun N hN=>(h1.qs.nd n N hN).1.nil id) (fun N hN=>(h1.qs.nd n N hN).2.2.nil id)]
    obtain ⟨h2,p2⟩:=Qb5 h1 p1 (by omega)
    exact ⟨.inr ⟨h2,K.told h1 p1 (by omega) t1⟩,p2.le (by omega) (by omega)⟩
   ·rw [XaN h1.qs id e' id]
    exact ⟨.inl ⟨i,by omega,h1,t1⟩,p1.le (by omega) (by omega)⟩
  ·rw [XaN (h1.qs l) id id id]
   exact ⟨.inr ⟨h1,t1⟩,p1.le (by omega) (by omega)⟩
theorem Xec (hq:S.q=[]) {i:Nat} (h: ∀E,S.dir[i]? =some E→Qaa E=false):S.wr i=S:=by
 unfold Sys.wr
 rw [Qea h,Jfh hq]
theorem Xfk {U:Nat→Prop} (hq:S.q=[]) (h:S.Qs l U X Y) (hb: ∀E,S.dir[l]? =some E→Qaa E=false) (i:Nat):S.wr i=S:=Xec hq fun E hE=>by
 by_cases e:i=l
 ·subst e;exact hb E hE
 ·exact Qa0 (h.oth i E hE e)
theorem Qbt (h: ∀i,S.wr i=S): ∀n,Qak n S=S
 | 0=>rfl
 | n+1=>by rw [X7,Qbt h n];exact h n
theorem Zd8 (h:S.P1 l X Y) (hq:S.q=[]) (n:Nat):Qak n S=S:=Qbt (fun i=>Xfk hq h.qs (fun E hE=>by
 obtain ⟨E',hE',_,hnz,_⟩:=h.e
 rw [hE] at hE';cases hE'
 exact Qf2 hnz) i) n
theorem Xfy {i:Nat} (h:S.P3 l i) (hq:S.q=[]) (n:Nat):Qak n S=S:=Qbt (fun j=>Xfk hq h.qs (fun E hE=>Qa0 (h.bz E hE)) j) n
theorem Zb8 (h:S.calm) (hq:S.q=[]) (n:Nat):Qak n S=S:=Qbt (fun j=>Xec hq (fun E hE=>Qa0 (h.bz j E hE))) n
theorem JcT (h:S.calm): ∀n,JG n S=S
 | 0=>rfl
 | n+1=>by rw [XV,JcT h n];exact XaN (h.qs 0) id id id
theorem Zeo (h:S.calm) (hq:S.q=[]):S.round=S:=by unfold Sys.round;rw [JcT h,Zb8 h hq]
theorem ZbG (h:S.calm) (hq:S.q=[]): ∀n,Zh n S=S
 | 0=>rfl
 | n+1=>by show Zh n S.round=S;rw [Zeo h hq];exact ZbG h hq n
theorem Qgm (h:S.P2 l) (hq:S.q=[]) (p:S.pr 1 k Vs) (hk:k<100000):(∃i,(S.wr l).P3 l i)∧(S.wr l).pr 1 (k+1) Vs∧(S.wr l).q=[]∧(∃E E',S.dir[l]? =some E∧(S.wr l).dir[l]? =some E'∧E'.owner=E.owner∧E'.dirty=false∧E'.busy=0)∧ ∀j:Nat,((S.wr l).nodes[j]?).map (·.up)=(S.nodes[j]?).map (·.up):=by
 obtain ⟨E,hE,hb,hw⟩:=h.e
 have hL:=p.line l E hE
 have hlt:=Qd hE
 have hr:Qaa E=true:=by
  unfold Qaa
  rw [hL.ei.good,hw,decide_eq_true hb];rfl
 have hq9:=p.wf.c.queue
 have hml:l<S.D.mem.length:=by have:=p.wf.mem;have:=p.wf.dir;omega
 have w0:(S.write l E).2=0:=by
  unfold Sys.write
  split
  ·rfl
  ·show (Qaz S.q S.D S.c.queue (l:Nat) E.data).2=0
   unfold Qaz Qca
   rw [if_pos (show (0:Int)≤(l:Nat)∧((l:Nat):Int)<S.D.mem.length by omega),if_neg (by decide),hq,if_neg (by show ¬S.c.queue≤((0:Nat):Int);omega)]
 have wq:(S.write l E).1.q=[]∨ ∃d,(S.write l E).1.q=[⟨(l:Nat),d⟩]:=by
  unfold Sys.write
  split
  ·exact .inl hq
  ·show (Qaz S.q S.D S.c.queue (l:Nat) E.data).1=[]∨_
   right
   refine ⟨E.data,?_⟩
   show (Qaz S.q S.D S.c.queue (l:Nat) E.data).1=_
   unfold Qaz Qca
   rw [if_pos (show (0:Int)≤(l:Nat)∧((l:Nat):Int)<S.D.mem.length by omega),if_neg (by decide),hq,if_neg (by show ¬S.c.queue≤((0:Nat):Int);omega)]
   rfl
 obtain ⟨f1,f2,f3,f4,f5⟩:=(XbI p hE).2 w0
 obtain ⟨p1,p2,p3,y,p4,p5⟩:=ZcD (M':=QT (S.write l E).1.q (S.write l E).1.D (l:Nat)) hL.ei hr hL.cv f4
 have e0:Zj E=((Mov.tell (Mov.over ⟨{ E with dirty:=false },0,[]⟩) E.who 14).e,(Mov.tell (Mov.over ⟨{ E with dirty:=false },0,[]⟩) E.who 14).out,0):=by
  unfold Zj;rw [if_neg (by rw [hr];decide)]
 have hy:y=⟨14,0,false,false,zeroL⟩:=by
  rw [e0] at p4
  simp only [Mov.tell,Mov.over,List.nil_append,List.cons.injEq,Snd.mk.injEq,and_true] at p4
  rw [←p4.2];rfl
 have hb':(Zj E).1.busy=0:=by rw [e0];rfl
 have ge:=QaU hL.ei
 have hb0:E.busy≠0:=by omega
 have hwho:=hL.ei.who hb0
 obtain ⟨_,hw0,_⟩:=ge.b1 hb0
 obtain ⟨w,hw'⟩: ∃w:Nat,E.who=(w:Nat):=⟨E.who.toNat,by omega⟩
 have hlines:=p.wf.c.lines
 have hdl:=p.wf.dir
 have ep:(S.push (l:Nat)).1=((S.write l E).1.setE l (Zj E).1).sends (l:Nat) [⟨(w:Nat),y⟩]:=by
  unfold Sys.push
  rw [Sys.ent_of hE];simp only
  rw [if_neg (by rw [hr];decide),if_neg (fun a=>a w0),if_neg (fun a=>a p1),p4,hw']
 have pp:=Xed (Zge p (by decide) hk (l:Nat)) (l:Nat)
 have qq:(S.write l E).1.Qs l no no no:=h.qs.same f1 f2
 have h3:=XdX (S:={ (S.write l E).1 with q:=[] }) (E':=(Zj E).1) (w:=w) (y:=y) (qq.same rfl rfl) (by show l<(S.write l E).1.dir.length;rw [f2];exact hlt) hb' (by show w<(S.write l E).1.nodes.length;rw [f1];have:=p.wf.nodes;omega) (by
  rw [hy]
  unfold Xy QI
  simp only [Bool.not_false,Bool.true_or,Bool.and_true,Bool.false_or]
  rw [decide_eq_true (show 1≤(14:Int)∧(14:Int)≤14∧0≤((l:Nat):Int)∧((l:Nat):Int)<64 by omega)]
  simp)
 have hpush: ∀(Q:List En),((({ (S.write l E).1 with q:=Q }:Sys).setE l (Zj E).1).sends (l:Nat) [⟨(w:Nat),y⟩])={ ((({ (S.write l E).1 with q:=[] }:Sys).setE l (Zj E).1).sends (l:Nat) [⟨(w:Nat),y⟩]) with q:=Q }:=by
  intro Q
  show (({ (S.write l E).1 with q:=Q }:Sys).setE l (Zj E).1).send1 (l:Nat) ⟨(w:Nat),y⟩={ (({ (S.write l E).1 with q:=[] }:Sys).setE l (Zj E).1).send1 (l:Nat) ⟨(w:Nat),y⟩ with q:=Q }
  unfold Sys.send1
  have e1:(({ (S.write l E).1 with q:=Q }:Sys).setE l (Zj E).1).at (w:Nat)=(({ (S.write l E).1 with q:=[] }:Sys).setE l (Zj E).1).at (w:Nat):=rfl
  show (match (({ (S.write l E).1 with q:=Q }:Sys).setE l (Zj E).1).at (w:Nat) with|none=>_|some (i,N)=>_)=_
  rw [e1]
  cases (({ (S.write l E).1 with q:=[] }:Sys).setE l (Zj E).1).at (w:Nat)<;>rfl
 unfold Sys.wr
 rw [ep] at pp ⊢
 have hdr:(((S.write l E).1.setE l (Zj E).1).sends (l:Nat) [⟨(w:Nat),y⟩]).drain (l:Nat)=(((S.write l E).1.setE l (Zj E).1).sends (l:Nat) [⟨(w:Nat),y⟩]).drain (l:Nat):=rfl
 obtain ⟨r1,r2,r3,r4⟩:=ZB (l:Nat) [⟨(w:Nat),y⟩] ((S.write l E).1.setE l (Zj E).1)
 have ex:=hpush (S.write l E).1.q
 have et:({ (S.write l E).1 with q:=(S.write l E).1.q }:Sys)=(S.write l E).1:=rfl
 rw [et] at ex
 generalize hZ:((({ (S.write l E).1 with q:=[] }:Sys).setE l (Zj E).1).sends (l:Nat) [⟨(w:Nat),y⟩])=Z at h3 ex
 rw [ex] at pp ⊢
 have hdrain: ∃D',(({ Z with q:=(S.write l E).1.q }:Sys).drain (l:Nat)).1={ Z with q:=[],D:=D' }:=by
  unfold Sys.drain
  split
  ·rename_i hl
   exfalso
   have e1:Z.dir.length=S.dir.length:=by
    rw [←hZ,(ZB _ _ _).1]
    show ((S.write l E).1.dir.set l _).length=_
    rw [List.length_set,f2]
   have hl':Z.line (l:Nat)=false:=hl
   unfold Sys.line at hl'
   rw [decide_eq_false_iff_not] at hl'
   exact hl' (by omega)
  ·rcases wq with a|⟨d,a⟩
   ·refine ⟨(JI (S.write l E).1.q Z.D (l:Nat)).2.1,?_⟩
    show { Z with q:=(JI (S.write l E).1.q Z.D (l:Nat)).1,D:=(JI (S.write l E).1.q Z.D (l:Nat)).2.1 }={ Z with q:=[],D:=(JI (S.write l E).1.q Z.D (l:Nat)).2.1 }
    rw [a];rfl
   ·refine ⟨(JI (S.write l E).1.q Z.D (l:Nat)).2.1,?_⟩
    show { Z with q:=(JI (S.write l E).1.q Z.D (l:Nat)).1,D:=(JI (S.write l E).1.q Z.D (l:Nat)).2.1 }={ Z with q:=[],D:=(JI (S.write l E).1.q Z.D (l:Nat)).2.1 }
    rw [a]
    have:(JI [(⟨(l:Nat),d⟩:En)] Z.D (l:Nat)).1=[]:=by
     unfold JI
     rw [List.findIdx?_cons,if_pos (by simp)]
     rfl
    rw [this]
 obtain ⟨D',hD'⟩:=hdrain
 rw [hD'] at pp ⊢
 have h4:({ Z with q:=[],D:=D' }:Sys).P3 l w:=⟨h3.qs.same rfl rfl,h3.bz,h3.lt⟩
 refine ⟨⟨w,h4⟩,h4.qs.small pp,rfl,⟨E,(Zj E).1,hE,?_,by rw [e0];rfl,by rw [e0];rfl,hb'⟩,fun j=> ?_⟩
 ·show Z.dir[l]? =_
  rw [←hZ,(ZB _ _ _).1]
  show ((S.write l E).1.dir.set l _)[l]? =_
  rw [List.getElem?_set_self (by rw [f2];exact hlt)]
 ·show (Z.nodes[j]?).map (·.up)=_
  rw [←hZ,Jaj]
  show (((S.write l E).1.nodes[j]?).map _).map _=_
  rw [f1]
  cases S.nodes[j]? <;>rfl
theorem Jeb (K:Keep l ia Vs T Tc) (h:Fi l T Tc S) (hq:S.q=[]) (p:S.pr 1 k Vs) (hk:k<100000) {n:Nat} (hn:l<n):R3 l T Tc (Qak n S)∧(Qak n S).pr 1 (k+1) Vs∧(Qak n S).q=[]:=by
 have pk:=p.le (Nat.le_refl 1) (show k≤k+1 by omega)
 rcases h with ⟨h,ht⟩|⟨i,h,ht⟩|⟨h,ht⟩
 ·have a: ∀m,(m≤l→Qak m S=S)∧(l<m→Qak m S=S.wr l):=by
   intro m
   induction m with
   | zero=>exact ⟨fun _=>rfl,fun h=>absurd h (by omega)⟩
   | succ m ih=>
    constructor
    ·intro hm
     rw [X7,ih.1 (by omega)]
     exact Xec hq (fun E hE=>Qa0 (h.qs.oth m E hE (by omega)))
    ·intro hm
     by_cases e:m=l
     ·subst e;rw [X7,ih.1 (by omega)]
     ·rw [X7,ih.2 (by omega)]
      obtain ⟨⟨i,h3⟩,_,hq3,_⟩:=Qgm h hq p hk
      exact Xfk hq3 h3.qs (fun E hE=>Qa0 (h3.bz E hE)) m
  rw [(a n).2 hn]
  obtain ⟨⟨i,h3⟩,p3,q3,_⟩:=Qgm h hq p hk
  exact ⟨.inl ⟨i,h3,K.wr h hq p hk ht⟩,p3,q3⟩
 ·rw [Xfy h hq];exact ⟨.inl ⟨i,h,ht⟩,pk,hq⟩
 ·rw [Zb8 h hq];exact ⟨.inr ⟨h,ht⟩,pk,hq⟩
theorem ZbQ (K:Keep l ia Vs T Tc) (h:S.P0 l ia) (hq:S.q=[]) (p:S.pr 1 k Vs) (ht:T S) (hk:k+200<100000) (hl:l<S.dir.length):
  (Zh 6 S).calm∧(Zh 6 S).q=[]∧Tc (Zh 6 S)∧(Zh 6 S).pr 1 (k+200) Vs:=by
 have hc:=p.wf.c.cores
 have hn:=p.wf.nodes
 have hd:=p.wf.dir
 generalize hN:S.c.cores.toNat=n at*
 generalize hLn:S.c.lines.toNat=L at*
 have hn8:n≤8:=by omega
 have rd: ∀{A:Sys},A.c=S.c→A.round=Qak L (JG n A):=fun {A} e=>by unfold Sys.round;rw [e,hN,hLn]
 have fin: ∀{A:Sys} {kk:Nat},A.c=S.c→A.q=[]→R3 l T Tc A→A.pr 1 kk Vs→kk+3*n<100000→A.round.calm∧A.round.q=[]∧Tc A.round∧A.round.pr 1 (kk+3*n) Vs:=by
  intro A kk ec eq hr pa hkk
  obtain ⟨h1,p1⟩:=Jeg K hr pa n hkk
  have q1:(JG n A).q=[]:=(Xcm A n).trans eq
  rw [rd ec]
  rcases h1 with ⟨i,hi,h1,_⟩|⟨h1,t1⟩
  ·have:=h1.lt
   have:=p1.wf.nodes
   rw [Zcq,ec,hN] at this
   omega
  ·rw [Zb8 h1 q1];exact ⟨h1,q1,t1,p1⟩
 have fin2: ∀{A:Sys} {kk r:Nat},A.c=S.c→A.q=[]→R3 l T Tc A→A.pr 1 kk Vs→kk+3*n<100000→(Zh (r+1) A).calm∧(Zh (r+1) A).q=[]∧Tc (Zh (r+1) A)∧(Zh (r+1) A).pr 1 (kk+3*n) Vs:=by
  intro A kk r ec eq hr pa hkk
  obtain ⟨a,b,c,d⟩:=fin ec eq hr pa hkk
  show (Zh r A.round).calm∧(Zh r A.round).q=[]∧Tc (Zh r A.round)∧(Zh r A.round).pr 1 (kk+3*n) Vs
  rw [ZbG a b];exact ⟨a,b,c,d⟩
 have step1: ∀{A:Sys} {kk:Nat} {X Y:Nat→Prop},A.c=S.c→A.q=[]→A.P1 l X Y→T A→A.pr 1 kk Vs→kk+3*n+1<100000→
   ((∃X' Y',A.round.P1 l X' Y'∧T A.round∧(∀i,¬X' i)∧(∀i,Y' i→X i))∨R3 l T Tc A.round)∧A.round.pr 1 (kk+3*n+1) Vs∧A.round.q=[]:=by
  intro A kk X Y ec eq h1 t1 pa hkk
  obtain ⟨h2,p2⟩:=Xee K h1 pa t1 n (by omega)
  have q1:(JG n A).q=[]:=(Xcm A n).trans eq
  rw [rd ec]
  rcases h2 with ⟨X',Y',h2,t2,hX,hY⟩|h2
  ·have hl2:=p2.wf.nodes
   rw [Zcq,ec,hN] at hl2
   rw [Zd8 h2 q1]
   refine ⟨.inl ⟨X',Y',h2,t2,fun i hi=> ?_,fun i hi=> ?_⟩,p2.le (by omega) (by omega),q1⟩
   ·have:=h2.lt i (.inl hi);have:=(hX i hi).1;omega
   ·rcases hY i hi with ⟨a,_⟩|a
    ·have:=h2.lt i (.inr hi);omega
    ·exact a
  ·obtain ⟨h3,p3,q3⟩:=Jeb K h2 q1 p2 (by omega) (n:=L) (by omega)
   exact ⟨.inr h3,p3,q3⟩
 obtain ⟨h1,p1⟩:=Xd4 K h p ht n (by omega)
 have q1:(JG n S).q=[]:=(Xcm S n).trans hq
 have c1:S.round.c=S.c:=Xcs S
 have r1:((∃X' Y',S.round.P1 l X' Y'∧T S.round)∨R3 l T Tc S.round)∧S.round.pr 1 (k+3*n+1) Vs∧S.round.q=[]:=by
  rw [rd rfl]
  rcases h1 with ⟨h1,_⟩|⟨_,X',Y',h1,t1⟩|⟨_,h1⟩
  ·have:=h.lt;omega
  ·rw [Zd8 h1 q1];exact ⟨.inl ⟨X',Y',h1,t1⟩,p1.le (by omega) (by omega),q1⟩
  ·obtain ⟨h3,p3,q3⟩:=Jeb K h1 q1 p1 (by omega) (n:=L) (by omega)
   exact ⟨.inr h3,p3,q3⟩
 obtain ⟨r1,p1',q1'⟩:=r1
 have le: ∀{A:Sys} {kk:Nat},kk≤k+200→A.calm∧A.q=[]∧Tc A∧A.pr 1 kk Vs→A.calm∧A.q=[]∧Tc A∧A.pr 1 (k+200) Vs:=fun hkk a=>⟨a.1,a.2.1,a.2.2.1,a.2.2.2.le (Nat.le_refl 1) hkk⟩
 show (Zh 5 S.round).calm∧(Zh 5 S.round).q=[]∧Tc (Zh 5 S.round)∧(Zh 5 S.round).pr 1 (k+200) Vs
 rcases r1 with ⟨X,Y,h1,t1⟩|r1
 ·obtain ⟨h2,p2,q2⟩:=step1 c1 q1' h1 t1 p1' (by omega)
  have c2:S.round.round.c=S.c:=(Xcs _).trans c1
  show (Zh 4 S.round.round).calm∧(Zh 4 S.round.round).q=[]∧Tc (Zh 4 S.round.round)∧(Zh 4 S.round.round).pr 1 (k+200) Vs
  rcases h2 with ⟨X2,Y2,h2,t2,hX2,hY2⟩|r2
  ·obtain ⟨h3,p3,q3⟩:=step1 c2 q2 h2 t2 p2 (by omega)
   have c3:S.round.round.round.c=S.c:=(Xcs _).trans c2
   show (Zh 3 S.round.round.round).calm∧(Zh 3 S.round.round.round).q=[]∧Tc (Zh 3 S.round.round.round)∧(Zh 3 S.round.round.round).pr 1 (k+200) Vs
   rcases h3 with ⟨X3,Y3,h3,t3,hX3,hY3⟩|r3
   ·exfalso
    obtain ⟨E,_,_,hnz,_,hW⟩:=h3.e
    obtain ⟨j,hj⟩:=nz_has.1 hnz
    obtain ⟨w,_,hw⟩:=hW j hj
    exact hw.elim (hX3 w) (fun a=>hX2 w (hY3 w a))
   ·exact le (by omega) (fin2 (r:=2) c3 q3 r3 p3 (by omega))
  ·exact le (by omega) (fin2 (r:=3) c2 q2 r2 p2 (by omega))
 ·exact le (by omega) (fin2 (r:=4) c1 q1' r1 p1' (by omega))
end
end Go.Proofs.YtmchcjaomcdbmaaGreat.Gen
namespace Go.Proofs.YtmchcjaomcdbmaaGreat.Gen
open Go Go.Proofs.YtmchcjaomcdbmaaGreat.Abs Go.RowKit
def SameA (S T:Sys):Prop:= ∀j:Nat,(T.nodes[j]?).map (·.A)=(S.nodes[j]?).map (·.A)
theorem SameA.refl (S:Sys):SameA S S:=fun _=>rfl
theorem SameA.trans {S T R:Sys} (h:SameA S T) (k:SameA T R):SameA S R:=fun j=>(k j).trans (h j)
theorem SameA.nodes {S T:Sys} (h:T.nodes=S.nodes):SameA S T:=fun j=>by rw [h]
theorem SameA.sends (S:Sys) (line:Int) (l:List Snd):SameA S (S.sends line l):=fun j=>by
 rw [Jaj]
 cases S.nodes[j]? <;>rfl
theorem SameA.setN {S:Sys} {i:Nat} {N N':Nd} (h:S.nodes[i]? =some N) (e:N'.A=N.A):SameA S (S.setN i N'):=fun j=>by
 by_cases ej:j=i
 ·subst ej;rw [Xt h,h];exact congrArg some e
 ·show ((S.nodes.set i N')[j]?).map _=_
  rw [List.getElem?_set_ne (fun a=>ej a.symm)]
theorem ZbE (S:Sys) (i:Nat) (e:Ent):(S.write i e).1.nodes=S.nodes:=by unfold Sys.write;split<;>rfl
theorem SameA.up (S:Sys) (c:Int):SameA S (S.up c).1:=by
 unfold Sys.up
 split
 ·exact .refl _
 ·rename_i i N ha
  obtain ⟨_,hN⟩:=Sys.at_some ha
  split
  ·exact .refl _
  ·split
   ·exact .refl _
   ·split
    ·exact .refl _
    ·split
     ·exact .nodes (Qb7 _ _ _)
     ·refine SameA.trans ?_ (SameA.sends _ _ _)
      refine (SameA.nodes (Qb7 S _ _)).trans (SameA.setN (N:=N) (by rw [Qb7];exact hN) rfl)
theorem SameA.answer (S:Sys) (c:Int):SameA S (S.answer c).1:=by
 unfold Sys.answer
 split
 ·exact .refl _
 ·rename_i i N ha
  obtain ⟨_,hN⟩:=Sys.at_some ha
  split
  ·exact .refl _
  ·split
   ·exact .refl _
   ·split
    ·exact SameA.setN hN rfl
    ·refine SameA.trans ?_ (SameA.sends _ _ _)
     intro j
     refine SameA.setN hN ?_ j
     rfl
theorem SameA.push (S:Sys) (l:Int):SameA S (S.push l).1:=by
 unfold Sys.push
 split
 ·exact .refl _
 ·split
  ·exact .refl _
  ·split
   ·exact .nodes (ZbE _ _ _)
   ·split
    ·exact .nodes (ZbE _ _ _)
    ·exact (SameA.nodes (ZbE S _ _)).trans (SameA.sends _ _ _)
theorem SameA.drain (S:Sys) (l:Int):SameA S (S.drain l).1:=by
 unfold Sys.drain
 split<;>exact .nodes rfl
theorem SameA.wr (S:Sys) (l:Nat):SameA S (S.wr l):=(SameA.push _ _).trans (SameA.drain _ _)
def AtN (S:Sys) (i:Nat) (P:Arr→Prop):Prop:= ∃N,S.nodes[i]? =some N∧P N.A
theorem AtN.same {S T:Sys} {i:Nat} {P:Arr→Prop} (h:AtN S i P) (k:SameA S T):AtN T i P:=by
 obtain ⟨N,hN,hp⟩:=h
 have:=k i
 rw [hN] at this
 cases e:T.nodes[i]? with
 | none=>rw [e] at this;cases this
 | some N'=>
  rw [e] at this
  have ha:N'.A=N.A:=Option.some.inj this
  exact ⟨N',e,by rw [ha];exact hp⟩
theorem Jcy {E:Ent} {V:Ln} {i s:Int} {d:Ln} (h:Base E V i s d [] []) (hb:E.busy=0):0≤s∧s≤3:=by
 cases h<;>first|(constructor<;>decide)|omega
def Kd (k s:Int):Prop:=(k=8∧s=4)∨(k=9∧s=4)∨(k=10∧(s=5∨s=6))∨(k=11∧7≤s∧s≤9)
theorem QfT {E:Ent} {V:Ln} {i s:Int} {d:Ln} {m:Ms} (h:Base E V i s d [] [m]):Kd m.kind s:=by
 generalize hL:[m]=L at h
 generalize hU:([]:List Ms)=U at h
 unfold Kd
 cases h<;>first|(cases hL;done)|(cases hU;done)|(cases hL;omega)
structure Zs (Z:Int→Prop):Prop where
 hi: ∀s,Z s→4≤s
 ask: ∀s kd,Z s→kd=12∨kd=13→turn kd s≠ -1→Z (turn kd s)
def Wt (i l s0 w0:Nat) (Z:Int→Prop) (S:Sys):Prop:=AtN S i fun A=>A.sets=s0∧A.ways=w0∧Z (A.slot (l:Nat)).state
def Told (i l s0 w0:Nat) (Z:Int→Prop) (S:Sys):Prop:=AtN S i fun A=> ∃B m,A=(Arr.hear B m).2.1∧m.line=(l:Nat)∧B.ok∧B.wf∧B.used<100000∧B.sets=s0∧B.ways=w0∧Xy m=true∧JaV m.kind=true∧Z (B.slot (l:Nat)).state∧Kd m.kind (B.slot (l:Nat)).state
theorem Xa3 (A:Arr) (l s:Int) (d:Ln):(A.set l s d).2.sets=A.sets∧(A.set l s d).2.ways=A.ways:=by
 unfold Arr.set
 split
 ·exact ⟨rfl,rfl⟩
 ·split<;>exact ⟨rfl,rfl⟩
theorem Jfg (A:Arr) (l:Int):(A.drop l).sets=A.sets∧(A.drop l).ways=A.ways:=by
 unfold Arr.drop
 split<;>exact ⟨rfl,rfl⟩
theorem JdB (A:Arr) (m:Ms):(A.hear m).2.1.sets=A.sets∧(A.hear m).2.1.ways=A.ways:=by
 unfold Arr.hear
 split
 ·exact ⟨rfl,rfl⟩
 ·split
  ·exact ⟨rfl,rfl⟩
  ·split
   ·exact ⟨rfl,rfl⟩
   ·split
    ·exact Jfg _ _
    ·exact Xa3 _ _ _ _
theorem Jfp {S:Sys} {j:Nat} {N:Nd} (hN:S.nodes[j]? =some N) {m:Ms} {r:List Ms} (hd:N.dn=m::r):(S.hear (j:Nat)).1=S.setN j { N with A:=(N.A.hear m).2.1,dn:=r,ans:=Xg N.ans (N.A.hear m).1 }:=by
 unfold Sys.hear;rw [Sys.at_of hN];simp only;rw [hd]
theorem Jbf {l i s0 w0:Nat} {Vs:Nat→Ln} {Z:Int→Prop} (hz:Zs Z):Keep l i Vs (Wt i l s0 w0 Z) (Told i l s0 w0 Z) where
 up:=fun _ _ _ h=>h.same (SameA.up _ _)
 ans:=fun _ _ _ _ h=>h.same (SameA.answer _ _)
 wr:=fun _ _ _ _ h=>h.same (SameA.wr _ _)
 hear:=by
  intro S X Y j k h p hk hx ht
  obtain ⟨N0,hN0,hs0,hw0,hZ⟩:=ht
  obtain ⟨E,hE,hb,hnz,hX,hW⟩:=h.e
  obtain ⟨N,hN⟩:=ZbJ (h.lt j (.inl hx))
  obtain ⟨a,b,c⟩:=h.qs.nd j N hN
  obtain ⟨m,hd,hm⟩:=b.one hx
  have ha:=c.nil (h.xy j hx)
  obtain ⟨_,hkd,hst,hne⟩:=JcW p hk hN hE hd ha hm (hX j (.inl hx))
  rw [Jfp hN hd]
  by_cases e:i=j
  ·subst e
   obtain rfl:N=N0:=by rw [hN] at hN0;exact Option.some.inj hN0
   refine ⟨_,Xt hN,(JdB _ _).1.trans hs0,(JdB _ _).2.trans hw0,?_⟩
   show Z ((N.A.hear m).2.1.slot (l:Nat)).state
   rw [hst]
   exact hz.ask _ _ hZ hkd hne
  ·refine ⟨N0,?_,hs0,hw0,hZ⟩
   show (S.nodes.set j _)[i]? =some N0
   rw [List.getElem?_set_ne (fun a=>e a.symm)];exact hN0
 told:=by
  intro S i0 k h p hk ht
  obtain ⟨N0,hN0,hs0,hw0,hZ⟩:=ht
  obtain ⟨N,hN⟩:=ZbJ h.lt
  obtain ⟨a,b,c⟩:=h.qs.nd i0 N hN
  obtain ⟨m,hd,hm⟩:=b.one rfl
  have hml:0≤m.line∧m.line<S.c.lines:=(p.wf.nd i0 N hN).dn.2 m (by rw [hd];simp)
  have hdl:=p.wf.dir
  obtain ⟨E,hE⟩: ∃E,S.dir[l]? =some E:=⟨_,List.getElem?_eq_getElem (by omega)⟩
  have hb:=h.bz E hE
  have h4:=hz.hi _ hZ
  have cv:=p.at hN0 hE
  obtain ⟨a0,b0,c0⟩:=h.qs.nd i N0 hN0
  rw [a0.nil id] at cv
  by_cases e:i=i0
  ·subst e
   obtain rfl:N=N0:=by rw [hN] at hN0;exact Option.some.inj hN0
   rw [hd] at cv
   have hn:=p.wf.nd i N hN
   obtain ⟨hg,htl⟩:=(p.qu i N hN).dn m (by rw [hd];simp)
   rw [Jfp hN hd]
   by_cases h14:m.kind=14
   ·exfalso
    rw [Jbo,if_neg (fun a=>a.2 h14)] at cv
    have:=(Jcy (Xah cv hb).2.1 hb).2
    omega
   ·rw [ZdQ hm h14] at cv
    have kd:=QfT (Xah cv hb).2.1
    exact ⟨_,Xt hN,N.A,m,rfl,hm,hn.gd.ok,hn.gd.wf,by have:=hn.gd.used;omega,hs0,hw0,hg,htl,hZ,kd⟩
  ·exfalso
   rw [b0.nil e] at cv
   have:=(Jcy (Xah cv hb).2.1 hb).2
   omega
def Z5 (s:Int):Prop:=s=5∨s=6
def Z4 (s:Int):Prop:=s=4
def Z7 (s:Int):Prop:=7≤s∧s≤9
theorem z5:Zs Z5:=⟨fun s h=>by rcases h with h|h<;>omega,fun s kd h hk hne=>by
 rcases h with rfl|rfl<;>rcases hk with rfl|rfl<;>first|exact absurd rfl hne|exact .inl rfl⟩
theorem z4:Zs Z4:=⟨fun s h=>by unfold Z4 at h;omega,fun s kd h hk hne=>by
 obtain rfl:s=4:=h
 rcases hk with rfl|rfl<;>exact absurd rfl hne⟩
theorem z7:Zs Z7:=⟨fun s h=>by unfold Z7 at h;omega,fun s kd h hk hne=>by
 have h3:s=7∨s=8∨s=9:=by unfold Z7 at h;omega
 unfold Z7
 rcases h3 with rfl|rfl|rfl<;>rcases hk with rfl|rfl<;>first|exact absurd rfl hne|(constructor<;>decide)⟩
theorem JgB {i l s0 w0:Nat} {S:Sys} (h:Told i l s0 w0 Z5 S):AtN S i fun A=>(A.slot (l:Nat)).state=2:=by
 obtain ⟨N,hN,B,m,rfl',hm,hok,hwf,hu,_,_,hg,ht,hz,hk⟩:=h
 refine ⟨N,hN,?_⟩
 rw [rfl']
 have k10:m.kind=10:=by
  unfold Kd at hk;unfold Z5 at hz;omega
 have t2:turn m.kind (B.slot m.line).state=2:=by rw [k10,hm];exact XdQ hz
 rw [←hm]
 exact ((JaA hok hwf hu hg ht).2 2 t2 (by decide) (by decide) (by rw [hm];unfold Z5 at hz;omega)).2.2.2.1
theorem Xgw {i l s0 w0:Nat} {S:Sys} (h:Told i l s0 w0 Z4 S):AtN S i fun A=>(A.slot (l:Nat)).state=1∨(A.slot (l:Nat)).state=2:=by
 obtain ⟨N,hN,B,m,rfl',hm,hok,hwf,hu,_,_,hg,ht,hz,hk⟩:=h
 refine ⟨N,hN,?_⟩
 rw [rfl']
 unfold Z4 at hz
 have k8:m.kind=8∨m.kind=9:=by
  unfold Kd at hk;omega
 rw [←hm] at hz ⊢
 rcases k8 with k8|k8
 ·exact .inl ((JaA hok hwf hu hg ht).2 1 (by rw [k8,hz];rfl) (by decide) (by decide) (by omega)).2.2.2.1
 ·exact .inr ((JaA hok hwf hu hg ht).2 2 (by rw [k8,hz];rfl) (by decide) (by decide) (by omega)).2.2.2.1
theorem Zgm {i l s0 w0:Nat} {S:Sys} (h:Told i l s0 w0 Z7 S):AtN S i fun A=> ∃B:Arr,A=B.drop (l:Nat)∧B.ok∧B.wf∧B.sets=s0∧B.ways=w0∧(B.slot (l:Nat)).state≠0:=by
 obtain ⟨N,hN,B,m,rfl',hm,hok,hwf,hu,hs,hw,hg,ht,hz,hk⟩:=h
 have hz':7≤(B.slot (l:Nat)).state∧(B.slot (l:Nat)).state≤9:=hz
 have k11:m.kind=11:=by
  unfold Kd at hk;omega
 refine ⟨N,hN,B,?_,hok,hwf,hs,hw,by omega⟩
 rw [rfl']
 have t0:turn m.kind (B.slot m.line).state=0:=by rw [k11,hm];exact Je6 (by omega)
 unfold Arr.hear
 rw [if_neg (by rw [hg,ht];simp),if_neg (by omega),if_neg (by omega),if_pos t0,hm]
def Fl (E:Ent):Prop:=((E.busy=4∨E.busy=5)∧(0≤E.owner→Zt E.wait E.owner=true))∨(E.busy=0∧E.owner<0∧E.dirty=false)
def Tf (i l:Nat) (S:Sys):Prop:= ∃N,S.nodes[i]? =some N∧((N.up=[]∧ ∃E,S.dir[l]? =some E∧Fl E)∨ ∃m,N.up=[m]∧(m.kind=4∨m.kind=5))
theorem Jfz (S:Sys) (line:Int) (l:List Snd) (j:Nat):((S.sends line l).nodes[j]?).map (·.up)=(S.nodes[j]?).map (·.up):=by
 rw [Jaj]
 cases S.nodes[j]? <;>rfl
theorem XgE {S T:Sys} {j:Nat} {N:Nd} (h:(T.nodes[j]?).map (·.up)=(S.nodes[j]?).map (·.up)) (hN:S.nodes[j]? =some N): ∃N',T.nodes[j]? =some N'∧N'.up=N.up:=by
 rw [hN] at h
 cases e:T.nodes[j]? with
 | none=>rw [e] at h;cases h
 | some N'=>rw [e] at h;exact ⟨N',rfl,Option.some.inj h⟩
theorem Tf.up0 {i l:Nat} {S:Sys} (h:Tf i l S) {U:Nat→Prop} {X Y:Nat→Prop} (hq:S.Qs l U X Y) (hu: ¬U i): ∃N E,S.nodes[i]? =some N∧N.up=[]∧S.dir[l]? =some E∧Fl E:=by
 obtain ⟨N,hN,⟨h0,E,hE,hf⟩|⟨m,hm,_⟩⟩:=h
 ·exact ⟨N,E,hN,h0,hE,hf⟩
 ·have:=(hq.nd i N hN).1.nil hu
  rw [hm] at this;cases this
end Go.Proofs.YtmchcjaomcdbmaaGreat.Gen
namespace Go.Proofs.YtmchcjaomcdbmaaGreat.Gen
open Go Go.Proofs.YtmchcjaomcdbmaaGreat.Abs Go.RowKit
section
variable {S:Sys} {k i l:Nat} {Vs:Nat→Ln} {N:Nd}
theorem Xdp (h:S.calm) (p:S.pr 1 k Vs) (hN:S.nodes[i]? =some N) (hl:l<S.dir.length):0≤(N.A.slot (l:Nat)).state∧(N.A.slot (l:Nat)).state≤3:=by
 obtain ⟨E,hE⟩: ∃E,S.dir[l]? =some E:=⟨_,List.getElem?_eq_getElem hl⟩
 have cv:=p.at hN hE
 obtain ⟨a,b,c⟩:=h.nd i N hN
 rw [a,b,c] at cv
 exact Jcy (Xah cv (h.bz l E hE)).2.1 (h.bz l E hE)
theorem Zbo (h:S.calm) (p:S.pr 1 k Vs) (hN:S.nodes[i]? =some N) {s:St} (hs:s∈N.A.l):s.state=0∨(s.rest∧0≤s.line∧s.line<S.c.lines∧Has N.A s.line s):=by
 by_cases h0:s.state=0
 ·exact .inl h0
 ·have hn:=p.wf.nd i N hN
  obtain ⟨idx,hidx⟩:=List.getElem?_of_mem hs
  have hh:Has N.A s.line s:=⟨idx,hidx,h0,rfl⟩
  have hlin:=hn.lin s hs
  have hd:=p.wf.dir
  have:=Xdp h p hN (l:=s.line.toNat) (by omega)
  rw [show ((s.line.toNat:Nat):Int)=s.line by omega,Zao hn.gd.ok hn.gd.wf hh] at this
  exact .inr ⟨⟨by omega,this.2⟩,hlin.1,hlin.2,hh⟩
theorem XbY (h:S.calm) (p:S.pr 1 k Vs) (hN:S.nodes[i]? =some N):N.A.idle=true:=by
 unfold Arr.idle
 rw [Option.isNone_iff_eq_none,List.findIdx?_eq_none_iff]
 intro s hs
 have hs':s∈N.A.l:=(List.mem_filter.1 (show s∈N.A.l.filter _ from hs)).1
 unfold Qer
 rcases Zbo h p hN hs' with h0|⟨hr,_⟩
 ·rw [h0];rfl
 ·have a:=hr.1
  have b:=hr.2
  rw [decide_eq_true (by omega)];rfl
theorem Zct: ∀(cs:List St) (v last:Int),(∀s∈cs,s.state=0∨(s.rest∧0≤s.line))→(cs≠[]∨0≤v)→(JD cs v last).1=true∨0≤(JD cs v last).2
 | [],v,last,_,h=> .inr (by rcases h with h|h;exact absurd rfl h;exact h)
 | s::cs,v,last,h,_=>by
  unfold JD
  split
  ·exact .inl rfl
  ·rename_i h0
   rcases h s (List.mem_cons_self ..) with e|⟨hr,hl⟩
   ·exact absurd e h0
   ·split
    ·exact Zct cs _ _ (fun x hx=>h x (List.mem_cons_of_mem _ hx)) (.inr hl)
    ·rename_i hno
     refine Zct cs _ _ (fun x hx=>h x (List.mem_cons_of_mem _ hx)) (.inr ?_)
     have a:=hr.1
     have b:=hr.2
     by_cases hv:v<0
     ·exact absurd ⟨a,b,.inl hv⟩ hno
     ·omega
theorem ZcF: ∀(cs:List St) (v last:Int),(∃s∈cs,s.state=0)→(JD cs v last).1=true
 | [],_,_,h=>by obtain ⟨s,hs,_⟩:=h;cases hs
 | s::cs,v,last,h=>by
  unfold JD
  split
  ·rfl
  ·rename_i h0
   obtain ⟨t,ht,h1⟩:=h
   have ht':t∈cs:=by
    rcases List.mem_cons.1 ht with rfl|ht
    ·exact absurd h1 h0
    ·exact ht
   split<;>exact ZcF cs _ _ ⟨t,ht',h1⟩
theorem Zcl {A:Arr} {line:Int} {s:St} (h:s∈A.part line): ∃idx:Nat,A.l[idx]? =some s∧A.from line≤idx∧idx<A.from line+A.ways:=by
 obtain ⟨j,hj⟩:=List.getElem?_of_mem h
 unfold Arr.part at hj
 have hj2:j<A.ways:=by
  have:=Qd hj
  rw [List.length_take] at this
  omega
 rw [List.getElem?_take,if_pos hj2,List.getElem?_drop] at hj
 exact ⟨A.from line+j,hj,by omega,by omega⟩
theorem Zf8 {A:Arr} (hok:A.ok) (hw:A.wf) {line:Int} {s:St} (h:s∈A.part line) (h0:s.state≠0):A.from s.line=A.from line:=by
 obtain ⟨idx,hi,h1,h2⟩:=Zcl h
 obtain ⟨_,p1,p2,_⟩:=hw.place idx s hi h0
 have hw1:=hok.2.1
 unfold Arr.from at*
 generalize (s.line%A.sets).toNat=x at*
 generalize (line%A.sets).toNat=y at*
 have ex:idx/A.ways=x:=Nat.div_eq_of_lt_le p1 (by rw [Nat.add_mul];omega)
 have ey:idx/A.ways=y:=Nat.div_eq_of_lt_le h1 (by rw [Nat.add_mul];omega)
 rw [←ex,←ey]
theorem ZeO {A:Arr} (hok:A.ok) {line:Int} (hl:0≤line):A.part line≠[]:=by
 obtain ⟨a1,a2,a3,a4,_⟩:=hok
 have hs:(0:Int)<A.sets:=by omega
 have hm:(line%A.sets).toNat<A.sets:=by have:=Int.emod_lt_of_pos line hs;have:=Int.emod_nonneg line (Int.ne_of_gt hs);omega
 have hmul:((line%A.sets).toNat+1)*A.ways≤A.sets*A.ways:=Nat.mul_le_mul_right _ hm
 intro e
 have hlen:(A.part line).length=0:=by rw [e];rfl
 unfold Arr.part Arr.from at hlen
 rw [List.length_take,List.length_drop,a4] at hlen
 rw [Nat.add_mul] at hmul
 omega
theorem Qe9 {B:Arr} (hok:B.ok) {vl line:Int} (h0:(B.slot vl).state≠0) (hf:B.from vl=B.from line) (hl:0≤line):((B.drop vl).room line).1=true:=by
 obtain ⟨kk,hk,_⟩:=QdS h0
 have hd:B.drop vl=B.put vl kk J4:=by unfold Arr.drop;rw [hk]
 rw [hd]
 unfold Arr.room
 rw [if_neg (by omega)]
 refine ZcF _ _ _ ⟨J4,?_,rfl⟩
 have hkl:kk<(B.part vl).length:=by
  unfold Arr.at at hk
  split at hk
  ·cases hk
  ·obtain ⟨h1,_⟩:=List.findIdx?_eq_some_iff_getElem.1 hk
   exact h1
 unfold Arr.part at hkl
 rw [List.length_take,List.length_drop] at hkl
 have e:(B.put vl kk J4).part line=((B.l.set (B.from vl+kk) J4).drop (B.from line)).take B.ways:=rfl
 rw [e,←hf]
 refine List.mem_of_getElem? (i:=kk) ?_
 rw [List.getElem?_take,if_pos (by omega),List.getElem?_drop,List.getElem?_set_self (by omega)]
theorem ZfY (h:S.calm) (hN:S.nodes[i]? =some N) {A':Arr} {m:Ms} (hm:m.line=(l:Nat)) (hg:Xy m=true):(S.setN i { N with A:=A',up:=Xg N.up [m] }).P0 l i:=by
 have hq:=h.qs l
 obtain ⟨a,b,c⟩:=h.nd i N hN
 have e:Xg N.up [m]=[m]:=by
  rw [a]
  show (Qab [] m).1=_
  rw [Zay hg (by simp)];rfl
 rw [e]
 obtain ⟨qa,qb,qc⟩:=hq.nd i N hN
 refine ⟨hq.setN hN ⟨.yes rfl hm,qb,qc⟩ (fun j hj=>⟨⟨fun a=>absurd a hj,fun a=>a.elim⟩,Iff.rfl,Iff.rfl⟩),h.bz l,?_⟩
 show i<(S.nodes.set i _).length
 rw [List.length_set];exact Qd hN
def JfN (S S':Sys) (i l:Nat) (N:Nd) (Z:Int→Prop):Prop:=
 (S'.P0 l i∧Wt i l N.A.sets N.A.ways Z S')∨(∃vl:Nat,S'.P0 vl i∧vl<S.dir.length∧Wt i vl N.A.sets N.A.ways Z7 S'∧N.A.from (vl:Nat)=N.A.from (l:Nat)∧(N.A.room (l:Nat)).1=false)
theorem ZfC (h:S.calm) (p:S.pr 1 k Vs) (hk:k<100000) (hN:S.nodes[i]? =some N) (hl:l<S.dir.length) {state kind:Int} {d:Ln} {Z:Int→Prop} (hz:kind=1∧Z=Z4∨kind=2∧Z=Z5)
  (hc:(kind=1∧state=4∧((N.A.slot (l:Nat)).state≠1∧(N.A.slot (l:Nat)).state≠2∧(N.A.slot (l:Nat)).state≠3))∨(kind=2∧state=5∧((N.A.slot (l:Nat)).state≠1∧(N.A.slot (l:Nat)).state≠2∧(N.A.slot (l:Nat)).state≠3))∨(kind=2∧state=6∧(N.A.slot (l:Nat)).state=1∧d=(N.A.slot (l:Nat)).data)):
  JfN S (S.setN i { N with A:=(N.A.ask (l:Nat) state kind d).2,up:=Xg N.up (N.A.ask (l:Nat) state kind d).1 }) i l N Z:=by
 have hn:=p.wf.nd i N hN
 have hok:=hn.gd.ok
 have hwf:=hn.gd.wf
 have hu:N.A.used<100000:=by have:=hn.gd.used;omega
 have hdl:=p.wf.dir
 have hlines:=p.wf.c.lines
 have hidle:=XbY h p hN
 by_cases hr:state≠6∧(N.A.room (l:Nat)).1=false
 ·right
  rcases Jb2 hok hwf (line:=(l:Nat)) (by omega) with e|e|⟨s,hs,hrest,e,h0,_,hh⟩
  ·rw [e] at hr;exact absurd hr.2 (by decide)
  ·exfalso
   have:=Zct (N.A.part (l:Nat)) (-1) 0 (fun s hs=>by
    obtain ⟨idx,hi,_⟩:=Zcl hs
    rcases Zbo h p hN (List.mem_of_getElem? hi) with a|⟨a,b,_⟩
    ·exact .inl a
    ·exact .inr ⟨a,b⟩) (.inl (ZeO hok (by omega)))
   have e2:JD (N.A.part (l:Nat)) (-1) 0=(false,-1):=by
    have:=e
    unfold Arr.room at this
    rw [if_neg (by omega)] at this
    exact this
   rw [e2] at this
   rcases this with a|a
   ·cases a
   ·exact absurd a (by decide)
  ·have hsl:=Zao hok hwf hh
   have ea:N.A.ask (l:Nat) state kind d=N.A.out s:=by
    unfold Arr.ask
    rw [if_neg (by rw [hidle];decide),if_pos hr,e,if_neg (by show ¬s.line<0;omega)]
    show N.A.out (N.A.slot s.line)=_
    rw [hsl]
   obtain ⟨idx,hi,_⟩:=Zcl hs
   have hs0:s.state≠0:=by have:=hrest.1;omega
   have hmem:=List.mem_of_getElem? hi
   have hlin:=hn.lin s hmem
   obtain ⟨vl,hvl⟩: ∃vl:Nat,s.line=(vl:Nat):=⟨s.line.toNat,by omega⟩
   rw [ea]
   have hst:7≤((N.A.out s).2.slot s.line).state∧((N.A.out s).2.slot s.line).state≤9:=by
    have a:=JbZ hok hwf hu (line:=s.line) (by rw [hsl];exact hrest.1) (by rw [hsl];exact hrest.2)
    rw [hsl] at a
    generalize hm:(N.A.out s).1=ms at a
    have hm2:ms=[QbL s]:=hm.symm
    cases a with
    | same _=>cases hm2
    | ask0 h1 _ _ _=>simp [QbL] at hm2;omega
    | ask1 _ _ _ _=>simp [QbL] at hm2
    | outc h1 h2 _=>
     simp only [QbL,List.cons.injEq,Ms.mk.injEq,and_true,true_and] at hm2
     rw [←hm2.1];omega
    | outd h1 h2 _ _=>
     simp only [QbL,List.cons.injEq,Ms.mk.injEq,and_true,true_and] at hm2
     rw [←hm2.1];omega
   refine ⟨vl,ZfY h hN (m:=QbL s) hvl ?_,by omega,?_,by rw [←hvl];exact Zf8 hok hwf hs hs0,hr.2⟩
   ·unfold Xy QbL
    simp only
    rw [decide_eq_true (show 1≤(3:Int)∧(3:Int)≤14∧0≤s.line∧s.line<64 by omega)]
    by_cases h3:s.state=3
    ·simp [h3]
    ·simp [h3]
   ·refine ⟨_,Xt hN,(Xa3 _ _ _ _).1,(Xa3 _ _ _ _).2,?_⟩
    show Z7 ((N.A.out s).2.slot (vl:Nat)).state
    rw [←hvl];exact hst
 ·left
  have ea:N.A.ask (l:Nat) state kind d=([⟨kind,(l:Nat),false,false,zeroL⟩],(N.A.set (l:Nat) state d).2):=by
   unfold Arr.ask
   rw [if_neg (by rw [hidle];decide),if_neg hr]
  have a:=Qbh hok hwf hu (line:=(l:Nat)) (d:=d) (by omega) hc
  rw [ea] at a ⊢
  refine ⟨ZfY h hN rfl (Zbq (by omega) (by omega)),_,Xt hN,(Xa3 _ _ _ _).1,(Xa3 _ _ _ _).2,?_⟩
  show Z ((N.A.set (l:Nat) state d).2.slot (l:Nat)).state
  generalize hm:([⟨kind,(l:Nat),false,false,zeroL⟩]:List Ms)=ms at a
  cases a with
  | same _=>cases hm
  | ask0 h1 _ h2 _=>
   simp only [List.cons.injEq,Ms.mk.injEq,and_true] at hm
   rw [←hm.2] at h2
   rw [h2]
   rcases hz with ⟨e1,rfl⟩|⟨e1,rfl⟩
   ·unfold Z4;omega
   ·unfold Z5;omega
  | ask1 _ h2 _ _=>
   simp only [List.cons.injEq,Ms.mk.injEq,and_true] at hm
   rw [←hm.2] at h2
   rw [h2]
   rcases hz with ⟨e1,rfl⟩|⟨e1,rfl⟩
   ·omega
   ·exact .inr rfl
  | outc _ _ _=>simp at hm;omega
  | outd _ _ _ _=>simp at hm
end
end Go.Proofs.YtmchcjaomcdbmaaGreat.Gen
namespace Go.Proofs.YtmchcjaomcdbmaaGreat.Gen
open Go Go.Proofs.YtmchcjaomcdbmaaGreat.Abs Go.RowKit
def Rdy (Rd:Int→Prop) (i l:Nat):Nat→Sys→Prop
 | 0,_=>True
 | 1,S=>AtN S i fun A=>Rd (A.slot (l:Nat)).state∨(A.room (l:Nat)).1=true
 | _,S=>AtN S i fun A=>Rd (A.slot (l:Nat)).state
def R2 (s:Int):Prop:=s=2
def R12 (s:Int):Prop:=s=1∨s=2
structure Cm (S:Sys) (k:Nat) (Vs:Nat→Ln):Prop where
 calm:S.calm
 q:S.q=[]
 pr:S.pr 1 k Vs
section
variable {S:Sys} {k i l:Nat} {Vs:Nat→Ln} {N:Nd}
theorem Jcp (S:Sys): ∀n,(Zh n S).c=S.c:=by
 intro n
 induction n generalizing S with
 | zero=>rfl
 | succ n ih=>show (Zh n S.round).c=_;rw [ih,Xcs]
theorem Qdw (h:S.calm) (hN:S.nodes[i]? =some N) (A':Arr):(S.setN i { N with A:=A' }).calm:=⟨fun j M hM=>by
 rcases XcY hN hM with ⟨_,rfl⟩|⟨_,hM⟩
 ·exact h.nd i N hN
 ·exact h.nd j M hM,h.bz⟩
theorem QdH {A B:Arr} (h1:A.sets=B.sets) (h2:A.ways=B.ways) (l:Int):A.from l=B.from l:=by unfold Arr.from;rw [h1,h2]
theorem Jce (hq:S.q=[]) {S':Sys} (p':S'.pr 2 (k+1) Vs) (hq':S'.q=[]) (hk:k+201<100000) (hl:l<S.dir.length) (hd:S'.dir.length=S.dir.length) {Z:Int→Prop} {Rd:Int→Prop} (hz:Zs Z) (hzr: ∀{T:Sys} {s0 w0:Nat},Told i l s0 w0 Z T→AtN T i fun A=>Rd (A.slot (l:Nat)).state)
  (ha:JfN S S' i l N Z):Cm (Zh 6 S') (k+201) Vs∧(AtN (Zh 6 S') i (fun A=>Rd (A.slot (l:Nat)).state)∨((N.A.room (l:Nat)).1=false∧AtN (Zh 6 S') i (fun A=>(A.room (l:Nat)).1=true))):=by
 rcases ha with ⟨h0,hw⟩|⟨vl,h0,hvl,hw,hf,hr⟩
 ·obtain ⟨c,q,t,p⟩:=ZbQ (Jbf hz) h0 hq' (h0.qs.small p') hw (by omega) (by omega)
  exact ⟨⟨c,q,p.le (Nat.le_refl 1) (by omega)⟩,.inl (hzr t)⟩
 ·obtain ⟨c,q,t,p⟩:=ZbQ (Jbf z7) h0 hq' (h0.qs.small p') hw (by omega) (by omega)
  refine ⟨⟨c,q,p.le (Nat.le_refl 1) (by omega)⟩,.inr ⟨hr,?_⟩⟩
  obtain ⟨M,hM,B,e,hok,_,hs,hwy,h7⟩:=Zgm t
  refine ⟨M,hM,?_⟩
  rw [e]
  exact Qe9 hok h7 (by rw [QdH hs hwy,QdH hs hwy];exact hf) (by omega)
theorem Xb6 (hl:l<S.dir.length):S.line (l:Nat)=true:=decide_eq_true ⟨by omega,by omega⟩
theorem Zc0 (p:S.pr 1 k Vs) (hl:l<S.dir.length) {w:Int} (hw:0≤w∧w<8):isW (l:Nat) w=true:=by
 have:=p.wf.dir
 have:=p.wf.c.lines
 exact decide_eq_true (by omega)
theorem AtN.get {P:Arr→Prop} (h:AtN S i P) (hN:S.nodes[i]? =some N):P N.A:=by
 obtain ⟨M,hM,hp⟩:=h
 rw [hN] at hM;cases hM;exact hp
theorem ZeK (h:Cm S k Vs) (hk:k+201<100000) (hN:S.nodes[i]? =some N) (hl:l<S.dir.length) {w v:Int} (hw:0≤w∧w<8) {s:Nat} (hs:s≤2) (hr:Rdy R2 i l s S):
  ((S.store (i:Nat) (l:Nat) w v).2=true∧Cm (S.store (i:Nat) (l:Nat) w v).1 (k+1) (Xfq Vs (l:Nat) w v)∧AtN (S.store (i:Nat) (l:Nat) w v).1 i (fun A=>(A.slot (l:Nat)).state=3∧ ∀l':Int,l'≠(l:Nat)→like (A.slot l') (N.A.slot l')))∨
  (s<2∧(S.store (i:Nat) (l:Nat) w v).2=false∧Cm (Zh 6 (S.store (i:Nat) (l:Nat) w v).1) (k+201) Vs∧Rdy R2 i l (s+1) (Zh 6 (S.store (i:Nat) (l:Nat) w v).1)):=by
 have p:=h.pr
 have hn:=p.wf.nd i N hN
 have hok:=hn.gd.ok
 have hwf:=hn.gd.wf
 have hu:N.A.used<100000:=by have:=hn.gd.used;omega
 have hS:S.store (i:Nat) (l:Nat) w v=(S.setN i { N with A:=(N.A.store (l:Nat) w v).2,up:=Xg N.up (N.A.store (l:Nat) w v).1 },N.A.storeHit (l:Nat) w):=by
  unfold Sys.store;rw [Sys.at_of hN];simp only;rw [if_neg (by rw [Xb6 hl];decide)]
 have hW:=Zc0 p hl hw
 have hW0:=Zc0 p hl (w:=0) (by decide)
 have pp:=Qej p (by decide) (by omega) (i:Nat) (l:Nat) w v
 rw [hS] at pp ⊢
 by_cases hh:N.A.storeHit (l:Nat) w=true
 ·left
  obtain ⟨e,_,e1,_,e3⟩:=Jcs hok hwf hu (v:=v) hh
  rw [if_pos hh] at pp
  have e0:(N.A.store (l:Nat) w v).1=[]:=by rw [e]
  rw [e0] at pp ⊢
  have hc:=Qdw h.calm hN (N.A.store (l:Nat) w v).2
  exact ⟨hh,⟨hc,h.q,(hc.qs 0).small pp⟩,_,Xt hN,e1,e3⟩
 ·right
  rw [if_neg hh] at pp
  have ho:N.A.owns (l:Nat)=false:=by
   unfold Arr.storeHit at hh
   rw [hW,Bool.true_and] at hh
   simpa using hh
  obtain ⟨n2,n3⟩:=Jd1 ho
  have hns: ¬(N.A.slot (l:Nat)).state=2:=n2
  have ea: ∃state d,N.A.store (l:Nat) w v=N.A.ask (l:Nat) state 2 d∧((state=5∧((N.A.slot (l:Nat)).state≠1∧(N.A.slot (l:Nat)).state≠2∧(N.A.slot (l:Nat)).state≠3))∨(state=6∧(N.A.slot (l:Nat)).state=1∧d=(N.A.slot (l:Nat)).data)):=by
   unfold Arr.store
   rw [if_neg (by rw [hW];decide),if_pos ho]
   unfold Arr.reach
   rw [if_neg (by rw [hW0,ho];simp)]
   by_cases h1:(N.A.slot (l:Nat)).state=1
   ·rw [if_pos h1];exact ⟨6,_,rfl,.inr ⟨rfl,h1,rfl⟩⟩
   ·rw [if_neg h1];exact ⟨5,_,rfl,.inl ⟨rfl,h1,n2,n3⟩⟩
  obtain ⟨state,d,ea,hc⟩:=ea
  rw [ea] at pp ⊢
  have a2:=ZfC h.calm p (by omega) hN hl (state:=state) (kind:=2) (d:=d) (Z:=Z5) (.inr ⟨rfl,rfl⟩) (by
   rcases hc with hc|hc
   ·exact .inr (.inl ⟨rfl,hc⟩)
   ·exact .inr (.inr ⟨rfl,hc⟩))
  obtain ⟨c1,c2⟩:=Jce (Rd:=R2) h.q (S':=S.setN i { N with A:=(N.A.ask (l:Nat) state 2 d).2,up:=Xg N.up (N.A.ask (l:Nat) state 2 d).1 }) pp h.q hk hl rfl z5 (fun t=>JgB t) a2
  match s,hs,hr with
  | 0,_,_=>exact ⟨by decide,by simpa using hh,c1,by
    rcases c2 with ⟨M,hM,a⟩|⟨_,M,hM,a⟩
    ·exact ⟨M,hM,.inl a⟩
    ·exact ⟨M,hM,.inr a⟩⟩
  | 1,_,hr=>
   refine ⟨by decide,by simpa using hh,c1,?_⟩
   rcases c2 with a|⟨a,_⟩
   ·exact a
   ·rcases (show AtN S i (fun A=>R2 (A.slot (l:Nat)).state∨(A.room (l:Nat)).1=true) from hr).get hN with b|b
    ·exact absurd b hns
    ·rw [a] at b;cases b
  | 2,_,hr=>exact absurd ((show AtN S i (fun A=>R2 (A.slot (l:Nat)).state) from hr).get hN) hns
theorem Xe2 (h:Cm S k Vs) (hk:k+201<100000) (hN:S.nodes[i]? =some N) (hl:l<S.dir.length) {w:Int} (hw:0≤w∧w<8) {s:Nat} (hs:s≤2) (hr:Rdy R12 i l s S):
  ((S.load (i:Nat) (l:Nat) w).2.2=true∧Cm (S.load (i:Nat) (l:Nat) w).1 (k+1) Vs∧(S.load (i:Nat) (l:Nat) w).2.1=QaX (Vs l) w)∨
  (s<2∧(S.load (i:Nat) (l:Nat) w).2.2=false∧Cm (Zh 6 (S.load (i:Nat) (l:Nat) w).1) (k+201) Vs∧Rdy R12 i l (s+1) (Zh 6 (S.load (i:Nat) (l:Nat) w).1)):=by
 have p:=h.pr
 have hn:=p.wf.nd i N hN
 have hS:S.load (i:Nat) (l:Nat) w=(S.setN i { N with A:=(N.A.load (l:Nat) w).2,up:=Xg N.up (N.A.load (l:Nat) w).1 },N.A.loadV (l:Nat) w,N.A.loadHit (l:Nat) w):=by
  unfold Sys.load;rw [Sys.at_of hN];simp only;rw [if_neg (by rw [Xb6 hl];decide)]
 have hW:=Zc0 p hl hw
 have pp:=Qe6 p (by decide) (by omega) (i:Nat) (l:Nat) w
 have hv:(S.load (i:Nat) (l:Nat) w).2.2=true→(S.load (i:Nat) (l:Nat) w).2.1=QaX (Vs l) w:=fun hh=>by
  have:=(Xfs p hh).2.2.2
  rw [Int.toNat_natCast] at this
  exact this
 rw [hS] at pp hv ⊢
 by_cases hh:N.A.loadHit (l:Nat) w=true
 ·left
  have e:N.A.load (l:Nat) w=([],N.A.touch (l:Nat)):=by
   unfold Arr.load
   rw [if_neg (by rw [hW];decide),if_pos hh]
  rw [e] at pp ⊢
  have hc:=Qdw h.calm hN (N.A.touch (l:Nat))
  exact ⟨hh,⟨hc,h.q,(hc.qs 0).small pp⟩,hv hh⟩
 ·right
  have hb:Jfr (N.A.slot (l:Nat))=false:=by
   unfold Arr.loadHit at hh
   rw [hW,Bool.true_and] at hh
   simpa using hh
  have hn3:=Ze1 hb
  have hns: ¬R12 (N.A.slot (l:Nat)).state:=fun a=>a.elim hn3.1 hn3.2.1
  have e:N.A.load (l:Nat) w=N.A.ask (l:Nat) 4 1 zeroL:=by
   unfold Arr.load
   rw [if_neg (by rw [hW];decide),if_neg hh]
  rw [e] at pp ⊢
  have a2:=ZfC h.calm p (by omega) hN hl (state:=4) (kind:=1) (d:=zeroL) (Z:=Z4) (.inl ⟨rfl,rfl⟩) (.inl ⟨rfl,rfl,hn3⟩)
  obtain ⟨c1,c2⟩:=Jce (Rd:=R12) h.q (S':=S.setN i { N with A:=(N.A.ask (l:Nat) 4 1 zeroL).2,up:=Xg N.up (N.A.ask (l:Nat) 4 1 zeroL).1 }) pp h.q hk hl rfl z4 (fun t=>Xgw t) a2
  match s,hs,hr with
  | 0,_,_=>exact ⟨by decide,by simpa using hh,c1,by
    rcases c2 with ⟨M,hM,a⟩|⟨_,M,hM,a⟩
    ·exact ⟨M,hM,.inl a⟩
    ·exact ⟨M,hM,.inr a⟩⟩
  | 1,_,hr=>
   refine ⟨by decide,by simpa using hh,c1,?_⟩
   rcases c2 with a|⟨a,_⟩
   ·exact a
   ·rcases (show AtN S i (fun A=>R12 (A.slot (l:Nat)).state∨(A.room (l:Nat)).1=true) from hr).get hN with b|b
    ·exact absurd b hns
    ·rw [a] at b;cases b
  | 2,_,hr=>exact absurd ((show AtN S i (fun A=>R12 (A.slot (l:Nat)).state) from hr).get hN) hns
end
end Go.Proofs.YtmchcjaomcdbmaaGreat.Gen
namespace Go.Proofs.YtmchcjaomcdbmaaGreat.Gen
open Go Go.Proofs.YtmchcjaomcdbmaaGreat.Abs Go.RowKit
variable {g:G} {n:Nat}
theorem Xdd (a:Int) {m:Int} (h1:1≤m) (h2:m≤1000) {K:Cont} (hK: ∀n',K (.int .i64 (a%m)) g n'):AC JM [.int .i64 a,.int .i64 m] g n K:=by
 refine ACalls.fold Jb ?_
 rw [←ZbM]
 simp only [Xbm]
 refine JeK (QB (fun h=>absurd h (by omega)) (fun _=> ?_))
 rw [Xdf]
 refine ⟨by omega,?_⟩
 have b1: -m<a.tmod m∧a.tmod m<m:=by
  have:=Int.tmod_lt_of_pos a (show 0<m by omega)
  have:=Int.lt_tmod_of_pos a (show 0<m by omega)
  omega
 rw [Jo,Xn (by omega) (by omega),Xdf]
 refine ⟨by omega,?_⟩
 have e:(a.tmod m+m).tmod m=a%m:=by
  rw [Int.tmod_eq_emod_of_nonneg (by omega),Int.add_emod_right]
  by_cases h0:0≤a
  ·rw [Int.tmod_eq_emod_of_nonneg h0,Int.emod_emod_of_dvd a (Int.dvd_refl m)]
  ·have:=Int.emod_add_mul_ediv a m
   have h3:a.tmod m=a-m*(a.tdiv m):=by have:=Int.tmod_add_mul_tdiv a m;omega
   rw [h3,Int.sub_emod,Int.mul_emod_right]
   simp
 rw [e]
 exact Ja (Sub.refl _) (hK _)
section
variable {o:Col Cl} {l:Nat} {W:ZbA} {S:Sys} {K:Cont} {k:Nat}
theorem Sys.wf.st (h:S.wf k) (hk:k<100000) (j:Nat):(S.st j).wf (k+1):=((h.up _).answer _).hear hk _
theorem Sys.wf.wr (h:S.wf k) (j:Nat):(S.wr j).wf k:=(h.push _).drain _
theorem Sys.wf.cores (h:S.wf k): ∀j,k+j<100000→(JG j S).wf (k+j)
 | 0,_=>h
 | j+1,hk=>by rw [XV];exact (Sys.wf.cores h j (by omega)).st (by omega) j
theorem Sys.wf.lines (h:S.wf k): ∀j,(Qak j S).wf k
 | 0=>h
 | j+1=>by rw [X7];exact (Sys.wf.lines h j).wr j
theorem Sys.wf.round (h:S.wf k) (hk:k+8<100000):S.round.wf (k+8):=by
 have hc:=h.c.cores
 exact ((h.cores S.c.cores.toNat (by omega)).le (by omega)).lines _
set_option maxRecDepth 100000 in
theorem QbI (h:SysH o g l W S) (hw:S.wf k) (hk:k+48<100000) (hK: ∀o' g' n' W',Sub (unc o g) (unc o' g')→SysH o' g' l W' (Zh 6 S)→K (.tuple #[]) g' n'):
  AC Xz [ptr l 0,.agg (Jr S.c).toArray] g n K:=by
 refine ACalls.fold Jb ?_
 rw [←Qbb]
 simp only [XaF,Qf]
 intro hn
 have s1:=(Sub.refl g).new hn (some (.cells (Jr S.c) .exact))
 have x1:unc o (upd g n (some (.cells (Jr S.c) .exact))) n=some (.cells (Jr S.c) .exact):=Qcy h hn _
 have h1:=h.mono s1
 have u1:=Sub.uncs h.live s1
 generalize upd g n (some (.cells (Jr S.c) .exact))=g1 at s1 x1 h1 u1
 have hco:=hw.c.cores
 have hli:=hw.c.lines
 refine JY (m:=6) (Inv:=fun m t g9 n9=> ∃(i:Nat) (o9:Col Cl) (W9:ZbA) (S9:Sys),m+i=6∧Sub (unc o g1) (unc o9 g9)∧SysH o9 g9 l W9 S9∧S9.wf (k+8*i)∧S9.c=S.c∧Zh m S9=Zh 6 S∧t 0=ptr l 0∧t 3=ptr n 0∧t 4= .int .i64 (i:Nat)) ?_
  ⟨0,o,W,S,rfl,Sub.refl _,h1,hw,rfl,rfl,rfl,rfl,rfl⟩
 rintro I m t g9 n9 ih ⟨i,o9,W9,S9,hm,u9,h9,w9,c9,e9,t0,t3,t4⟩
 simp only [Xar,t4]
 refine JeK (QB (fun hlt=> ?_) (fun hlt=> ?_))
 ·obtain ⟨m',rfl⟩: ∃m',m=m'+1:=⟨m-1,by omega⟩
  refine JY (m:=S.c.cores.toNat) (Inv:=fun q t2 gg nn=> ∃(j:Nat) (o2:Col Cl) (W2:ZbA),q+j=S.c.cores.toNat∧Sub (unc o9 g9) (unc o2 gg)∧SysH o2 gg l W2 (JG j S9)∧t2 0=ptr l 0∧t2 3=ptr n 0∧t2 4= .int .i64 (i:Nat)∧t2 5= .int .i64 (j:Nat)) ?_
   ⟨0,o9,W9,by omega,Sub.refl _,h9,t0,t3,t4,rfl⟩
  rintro I2 q t2 gg nn ih2 ⟨j,o2,W2,hq,u2,h2,r0,r3,r4,r5⟩
  simp only [Jar,r0,r3,r5,Zc]
  have xg: ∀{oz:Col Cl} {gz:G},Sub (unc o9 g9) (unc oz gz)→gz n=some (.cells (Jr S.c) .exact):=fun {oz gz} u=>(Xq _ _).live ((u9.trans u).live x1)
  refine Qb (xg u2) (show (Jr S.c)[0+0]? =some (.int .i64 S.c.cores) from rfl) (JeK (QB (fun hlt2=> ?_) (fun hlt2=> ?_)))
  ·have w2:(JG j S9).wf (k+8*i+j):=w9.cores j (by omega)
   refine Jda h2 w2.shp (JgA w2) _ (fun o3 g3 n3 W3 u3 h3=> ?_)
   have w3:=w2.up (j:Nat)
   refine Xb9 h3 (Zgq w3) _ (fun o4 g4 n4 W4 u4 h4=> ?_)
   have w4:=w3.answer (j:Nat)
   refine Xbs h4 (w4.fit (by omega)) _ (fun o5 g5 n5 W5 u5 h5=> ?_)
   rw [Jo,ZaZ (by omega)]
   exact ih2 (q-1) _ _ _ (by omega) ⟨j+1,o5,W5,by omega,((u2.trans u3).trans u4).trans u5,by rw [XV];exact h5,r0,r3,r4,rfl⟩
  ·have hj:j=S.c.cores.toNat:=by omega
   have wc:(JG j S9).wf (k+8*i+8):=(w9.cores j (by omega)).le (by omega)
   have l4: ∀(t':Env),t' 0=ptr l 0→t' 3=ptr n 0→t' 4= .int .i64 (i:Nat)→JX AC K I t' gg nn:=by
    intro t' q0 q3 q4
    simp only [JX]
    refine JY (m:=S.c.lines.toNat) (Inv:=fun q t3 ga na=> ∃(jl:Nat) (o3:Col Cl) (W3:ZbA),q+jl=S.c.lines.toNat∧Sub (unc o9 g9) (unc o3 ga)∧SysH o3 ga l W3 (Qak jl (JG j S9))∧t3 0=ptr l 0∧t3 3=ptr n 0∧t3 4= .int .i64 (i:Nat)∧t3 6= .int .i64 (jl:Nat)) ?_
     ⟨0,o2,W2,by omega,u2,h2,q0,q3,q4,rfl⟩
    rintro I3 q t3 ga na ih3 ⟨jl,o3,W3,hq3,u3,h3,p0,p3,p4,p6⟩
    simp only [Zar,p0,p3,p6,Zc]
    refine Qb (xg u3) (show (Jr S.c)[0+1]? =some (.int .i64 S.c.lines) from rfl) (JeK (QB (fun hlt3=> ?_) (fun hlt3=> ?_)))
    ·have w3:=wc.lines jl
     refine Xew h3 w3.shp _ (fun o4 g4 n4 W4 u4 h4=> ?_)
     have w4:=w3.push (jl:Nat)
     refine QdT h4 w4.shp _ (fun o5 g5 n5 W5 u5 h5=> ?_)
     rw [Jo,ZaZ (by omega)]
     exact ih3 (q-1) _ _ _ (by omega) ⟨jl+1,o5,W5,by omega,(u3.trans u4).trans u5,by rw [X7];exact h5,p0,p3,p4,rfl⟩
    ·have hjl:jl=S.c.lines.toNat:=by omega
     have hr:Qak jl (JG j S9)=S9.round:=by unfold Sys.round;rw [c9,hj,hjl]
     rw [hr] at h3
     have j5: ∀(t4:Env),t4 0=ptr l 0→t4 3=ptr n 0→t4 4= .int .i64 (i:Nat)→ZY AC K I t4 ga na:=by
      intro t4 z0 z3 z4
      simp only [ZY,z4]
      rw [Jo,ZaZ (by omega)]
      exact ih m' _ _ _ (by omega) ⟨i+1,o3,W3,S9.round,by omega,u9.trans u3,h3,(w9.round (by omega)).le (by omega),(Xcs _).trans c9,e9,z0,z3,rfl⟩
     exact j5 _ p0 p3 p4
   exact l4 _ r0 r3 r4
 ·have h0:m=0:=by omega
  subst h0
  have e9':S9=Zh 6 S:=e9
  rw [e9'] at h9
  exact Ja (Sub.refl _) (hK _ _ _ _ (u1.trans u9) h9)
end
section
variable {o:Col Cl} {l:Nat} {W:ZbA} {S:Sys} {K:Cont} {k:Nat} {Vs:Nat→Ln}
theorem Zem (S:Sys) (i l w v:Int):(S.store i l w v).1.c=S.c:=ZfT S ⟨1,i,l,w,v⟩
theorem Xf5 (S:Sys) (i l w:Int):(S.load i l w).1.c=S.c:=ZfT S ⟨0,i,l,w,0⟩
theorem Cm.le {S:Sys} {k k':Nat} {Vs:Nat→Ln} (h:Cm S k Vs) (hk:k≤k'):Cm S k' Vs:=⟨h.calm,h.q,h.pr.le (Nat.le_refl 1) hk⟩
theorem Cm.node (h:Cm S k Vs) {i:Nat} (hi:(i:Int)<S.c.cores): ∃N,S.nodes[i]? =some N:=ZbJ (by have:=h.pr.wf.nodes;omega)
end
end Go.Proofs.YtmchcjaomcdbmaaGreat.Gen
namespace Go.Proofs.YtmchcjaomcdbmaaGreat.Gen
open Go Go.Proofs.YtmchcjaomcdbmaaGreat.Abs Go.RowKit
variable {g:G} {n:Nat}
theorem Qgp (c:List Value) (h:RepL g [.i .i64,.i .i64,.i .i64,.i .i64,.i .u64] c): ∃x,c=Zu x:=by
 obtain ⟨a1,r1,e1,_,h⟩:=Qcj h
 obtain ⟨a2,r2,e2,_,h⟩:=Qcj h
 obtain ⟨a3,r3,e3,_,h⟩:=Qcj h
 obtain ⟨a4,r4,e4,_,h⟩:=Qcj h
 obtain ⟨a5,r5,e5,_,h⟩:=Qcj h
 have e:=Xfg h
 subst e e5 e4 e3 e2 e1
 exact ⟨⟨a1,a2,a3,a4,a5⟩,rfl⟩
theorem Xgu (c:List Value) (h:RepL g [.i .i64,.i .i64,.i .i64,.i .i64,.i .i64,.i .i64,.i .i64] c): ∃x,c=Jr x:=by
 obtain ⟨a1,r1,e1,_,h⟩:=Qcj h
 obtain ⟨a2,r2,e2,_,h⟩:=Qcj h
 obtain ⟨a3,r3,e3,_,h⟩:=Qcj h
 obtain ⟨a4,r4,e4,_,h⟩:=Qcj h
 obtain ⟨a5,r5,e5,_,h⟩:=Qcj h
 obtain ⟨a6,r6,e6,_,h⟩:=Qcj h
 obtain ⟨a7,r7,e7,_,h⟩:=Qcj h
 have e:=Xfg h
 subst e e7 e6 e5 e4 e3 e2 e1
 exact ⟨⟨a1,a2,a3,a4,a5,a6,a7⟩,rfl⟩
end Go.Proofs.YtmchcjaomcdbmaaGreat.Gen
namespace Go.Proofs.YtmchcjaomcdbmaaGreat.Gen
open Go Go.Proofs.YtmchcjaomcdbmaaGreat.Abs Go.RowKit
variable {g:G} {n:Nat}
theorem Xfi {a b c v:Int} {K:List Value→Prop} (k:K (Zu ⟨0,a,b,c,v⟩)):Xk [.int .i64 0,.int .i64 0,.int .i64 0,.int .i64 0,.int .u64 0] [(1,none,.int .i64 a),(2,none,.int .i64 b),(3,none,.int .i64 c),(4,none,.int .u64 v)] K:=
 ⟨rfl,by decide,rfl,Nat.le_of_ble_eq_true rfl,rfl,Nat.le_of_ble_eq_true rfl,rfl,Nat.le_of_ble_eq_true rfl,k⟩
theorem XgF {l:Nat} {x z:Stp} {K:G→Prop} (h:g l=some (.cells (Zu z) .exact)) (k:K (upd g l (some (.cells (Zu x) .exact)))):(Zu x).length=5∧Xw g l 0 (Zu x) K:=by
 refine ⟨rfl,XB h rfl (by rw [Qbs,Qbs];decide) (by simp [Zu,isCell]) ?_⟩
 rw [Xv (by rw [Qbs,Qbs])];exact k
theorem Zfv (x:Ln) {w:Int} (h0:0≤w) (h8:w<8) (v:Int):QaX (x.put w.toNat v) w=v:=by
 have:=x.2
 unfold QaX Ln.put
 rw [List.getD_eq_getElem?_getD,List.getElem?_set_self (by omega)];rfl
theorem JfK (Vs:Nat→Ln) (ln:Nat) {w:Int} (h0:0≤w) (h8:w<8) (v:Int):QaX (Xfq Vs (ln:Nat) w v ln) w=v:=by
 unfold Xfq
 rw [if_pos rfl];exact Zfv _ h0 h8 v
theorem Zf4 {l o:Nat} {d:Ln} {w:Int} {K:Value→Nat→Nat→Value→Prop} (h:At g l o (Xl d)) (hw:0≤w∧w<8) (k: ∀p l' o',K p l' o' (.int .u64 (QaX d w))):ZD (ptr l o) (.int .i64 w) 8 1 fun p=>Qe p fun l' o'=>kLd g l' o' (K p l' o'):=by
 refine ⟨hw.1,hw.2,?_⟩
 show Qe (ptr l (o+w.toNat*1)) _
 rw [Zc,show o+w.toNat*1=o+w.toNat by omega]
 refine h.ld ?_ (k _ _ _)
 have h3:=d.2
 unfold Xl QaX
 rw [List.getElem?_map,List.getElem?_eq_getElem (by omega),List.getD_eq_getElem?_getD,List.getElem?_eq_getElem (by omega)]
 rfl
theorem Qgu {c:Cfg} (hc:c.good):Cm (XaP c []) 0 (fun _=>zeroL):=by
 have p:=QeY hc 1 0
 refine ⟨⟨fun j N hN=> ?_,fun l E hE=> ?_⟩,rfl,p⟩
 ·obtain ⟨_,h⟩:=List.getElem?_eq_some_iff.1 (show (List.replicate c.cores.toNat (nd0 c))[j]? =some N from hN)
  rw [List.getElem_replicate] at h
  rw [←h];exact ⟨rfl,rfl,rfl⟩
 ·obtain ⟨_,h⟩:=List.getElem?_eq_some_iff.1 (show (List.replicate c.lines.toNat emptyEnt)[l]? =some E from hE)
  rw [List.getElem_replicate] at h
  rw [←h];rfl
end Go.Proofs.YtmchcjaomcdbmaaGreat.Gen
namespace Go.Proofs.YtmchcjaomcdbmaaGreat.Gen
open Go Go.Proofs.YtmchcjaomcdbmaaGreat.Abs Go.RowKit
theorem Keep.and {l i:Nat} {Vs:Nat→Ln} {T T' Tc Tc':Sys→Prop} (h:Keep l i Vs T Tc) (k:Keep l i Vs T' Tc'):Keep l i Vs (fun S=>T S∧T' S) (fun S=>Tc S∧Tc' S):=
 ⟨fun a b c d=>⟨h.up a b c d.1,k.up a b c d.2⟩,fun a b c e d=>⟨h.ans a b c e d.1,k.ans a b c e d.2⟩,fun a b c e d=>⟨h.hear a b c e d.1,k.hear a b c e d.2⟩,fun a e b c d=>⟨h.wr a e b c d.1,k.wr a e b c d.2⟩,fun a b c d=>⟨h.told a b c d.1,k.told a b c d.2⟩⟩
theorem Jcm (S:Sys) (i:Int):(S.hear i).1.dir=S.dir:=by
 unfold Sys.hear
 split
 ·rfl
 ·split<;>rfl
theorem Xey (S:Sys) (l:Nat) {l':Nat} (h:l'≠l):(S.wr l).dir[l']? =S.dir[l']? :=by
 have hd: ∀T:Sys,(T.drain (l:Nat)).1.dir=T.dir:=fun T=>by unfold Sys.drain;split<;>rfl
 unfold Sys.wr
 rw [hd]
 unfold Sys.push
 split
 ·rfl
 ·rename_i i e he
  obtain ⟨hl,hi⟩:=Sys.ent_some he
  obtain rfl:l=i:=by omega
  split
  ·rfl
  ·split
   ·show (S.write l e).1.dir[l']? =_
    rw [Zbm]
   ·split
    ·show (S.write l e).1.dir[l']? =_
     rw [Zbm]
    ·rw [(ZB _ _ _).1]
     show ((S.write l e).1.dir.set l _)[l']? =_
     rw [List.getElem?_set_ne (fun a=>h a.symm),Zbm]
def Lone (l:Nat) (S:Sys):Prop:= ∀l':Nat,l'≠l→l'<S.dir.length→S.dir[l']? =some emptyEnt
def Oth (l:Nat) (D:Nat→Option Ent) (S:Sys):Prop:= ∀l':Nat,l'≠l→S.dir[l']? =D l'
theorem Qef {l i:Nat} {Vs:Nat→Ln} (D:Nat→Option Ent):Keep l i Vs (Oth l D) (Oth l D) where
 up:=by
  intro S k h p hk ht l' hl'
  obtain ⟨N,m,E,hN,hu,hE,hm,e,_⟩:=ZfF h p
  rw [e,(ZB _ _ _).1]
  show ((S.dir.set l _).set l _)[l']? =_
  rw [List.getElem?_set_ne (fun a=>hl' a.symm),List.getElem?_set_ne (fun a=>hl' a.symm)]
  exact ht l' hl'
 ans:=by
  intro S X Y j k h p hk hy ht l' hl'
  obtain ⟨N,m,E',hN,ha,hE',hm,e,hs⟩:=QdD h p hy
  rw [e,(ZB _ _ _).1]
  show (S.dir.set l _)[l']? =_
  rw [List.getElem?_set_ne (fun a=>hl' a.symm)]
  exact ht l' hl'
 hear:=by
  intro S X Y j k h p hk hx ht l' hl'
  rw [Jcm];exact ht l' hl'
 wr:=by
  intro S k h hq p hk ht l' hl'
  rw [Xey S l hl'];exact ht l' hl'
 told:=by
  intro S i0 k h p hk ht l' hl'
  rw [Jcm];exact ht l' hl'
section
variable {S:Sys} {k i l:Nat} {Vs:Nat→Ln} {N:Nd}
theorem Lone.oth {T:Sys} (h:Lone l S) (hd:T.dir.length=S.dir.length) (ho:Oth l (fun l'=>S.dir[l']?) T):Lone l T:=fun l' hl' hlt=>(ho l' hl').trans (h l' hl' (by omega))
theorem ZdG (hL:Lone l S) (h:S.calm) (p:S.pr 1 k Vs) (hN:S.nodes[i]? =some N) {s:St} (hs:s∈N.A.l) (hl:s.line≠(l:Nat)):s.state=0:=by
 rcases Zbo h p hN hs with h0|⟨_,h0,h1,hh⟩
 ·exact h0
 ·exfalso
  have hd:=p.wf.dir
  have hn:=p.wf.nd i N hN
  have hlt:s.line.toNat<S.dir.length:=by omega
  have hE:=hL s.line.toNat (by omega) hlt
  have cv:=p.at hN hE
  obtain ⟨a,b,c⟩:=h.nd i N hN
  rw [a,b,c,show ((s.line.toNat:Nat):Int)=s.line by omega,Zao hn.gd.ok hn.gd.wf hh] at cv
  have hb:=(Xah cv rfl).2.1
  obtain ⟨idx,hi,hs0,_⟩:=hh
  have hno:isN emptyEnt ((i:Nat):Int):=⟨by show (-1:Int)≠_;omega,XD _⟩
  generalize hst:s.state=st at hb hs0
  generalize s.data=sd at hb
  cases hb with
  | r0 _ _=>exact hs0 rfl
  | r1 a _=>exact absurd (hno.2.symm.trans a.2) (by decide)
  | r2 a _ _=>exact hno.1 a
  | r3 a _=>exact hno.1 a
  | b2 _ a _=>exact absurd a (by decide)
  | c2 _ a _=>exact absurd a (by decide)
  | d2 _ a _=>exact absurd a (by decide)
theorem Zdy (hL:Lone l S) (h:S.calm) (p:S.pr 1 k Vs) (hN:S.nodes[i]? =some N) (h0:(N.A.slot (l:Nat)).state=0):(N.A.room (l:Nat)).1=true:=by
 have hn:=p.wf.nd i N hN
 have hok:=hn.gd.ok
 unfold Arr.room
 rw [if_neg (by omega)]
 obtain ⟨s,hs⟩:=List.exists_mem_of_ne_nil _ (ZeO hok (line:=(l:Nat)) (by omega))
 refine ZcF _ _ _ ⟨s,hs,?_⟩
 obtain ⟨idx,hi,_⟩:=Zcl hs
 have hm:=List.mem_of_getElem? hi
 by_cases e:s.line=(l:Nat)
 ·rcases Zbo h p hN hm with a|⟨_,_,_,hh⟩
  ·exact a
  ·rw [←e,Zao hok hn.gd.wf hh] at h0;exact h0
 ·exact ZdG hL h p hN hm e
theorem Jeq (hL:Lone l S) (h:S.calm) (p:S.pr 1 k Vs) (hN:S.nodes[i]? =some N) (h0:(N.A.slot (l:Nat)).state=0):S.slots (i:Nat)=[]:=by
 have hn:=p.wf.nd i N hN
 unfold Sys.slots
 rw [Sys.at_of hN]
 show N.A.l.filter _=[]
 rw [List.filter_eq_nil_iff]
 intro s hs
 have:s.state=0:=by
  by_cases e:s.line=(l:Nat)
  ·rcases Zbo h p hN hs with a|⟨_,_,_,hh⟩
   ·exact a
   ·rw [←e,Zao hn.gd.ok hn.gd.wf hh] at h0;exact h0
  ·exact ZdG hL h p hN hs e
 simp [this]
theorem QcX {T:Sys} (h1:T.wf k) {k':Nat} (h2:S.wf k') (hc:T.c=S.c):T.dir.length=S.dir.length:=by rw [h1.dir,h2.dir,hc]
theorem QeK (hL:Lone l S) (h:Cm S k Vs) (hk:k+201<100000) (hN:S.nodes[i]? =some N) (hl:l<S.dir.length) {w v:Int} (hw:0≤w∧w<8):
  ((S.store (i:Nat) (l:Nat) w v).2=true→Lone l (S.store (i:Nat) (l:Nat) w v).1)∧((S.store (i:Nat) (l:Nat) w v).2=false→Lone l (Zh 6 (S.store (i:Nat) (l:Nat) w v).1)):=by
 have p:=h.pr
 have hn:=p.wf.nd i N hN
 have hS:S.store (i:Nat) (l:Nat) w v=(S.setN i { N with A:=(N.A.store (l:Nat) w v).2,up:=Xg N.up (N.A.store (l:Nat) w v).1 },N.A.storeHit (l:Nat) w):=by
  unfold Sys.store;rw [Sys.at_of hN];simp only;rw [if_neg (by rw [Xb6 hl];decide)]
 have hW:=Zc0 p hl hw
 have hW0:=Zc0 p hl (w:=0) (by decide)
 have pp:=Qej p (by decide) (by omega) (i:Nat) (l:Nat) w v
 rw [hS] at pp ⊢
 refine ⟨fun _=>hL,fun hh=> ?_⟩
 have hh:N.A.storeHit (l:Nat) w=false:=hh
 rw [if_neg (fun a=>by have a':N.A.storeHit (l:Nat) w=true:=a;rw [hh] at a';cases a')] at pp
 have ho:N.A.owns (l:Nat)=false:=by
  unfold Arr.storeHit at hh
  rw [hW,Bool.true_and] at hh
  exact hh
 obtain ⟨n2,n3⟩:=Jd1 ho
 have ea: ∃state d,N.A.store (l:Nat) w v=N.A.ask (l:Nat) state 2 d∧((state=5∧((N.A.slot (l:Nat)).state≠1∧(N.A.slot (l:Nat)).state≠2∧(N.A.slot (l:Nat)).state≠3))∨(state=6∧(N.A.slot (l:Nat)).state=1∧d=(N.A.slot (l:Nat)).data)):=by
  unfold Arr.store
  rw [if_neg (by rw [hW];decide),if_pos ho]
  unfold Arr.reach
  rw [if_neg (by rw [hW0,ho];simp)]
  by_cases h1:(N.A.slot (l:Nat)).state=1
  ·rw [if_pos h1];exact ⟨6,_,rfl,.inr ⟨rfl,h1,rfl⟩⟩
  ·rw [if_neg h1];exact ⟨5,_,rfl,.inl ⟨rfl,h1,n2,n3⟩⟩
 obtain ⟨state,d,ea,hc⟩:=ea
 rw [ea] at pp ⊢
 have a2:=ZfC h.calm p (by omega) hN hl (state:=state) (kind:=2) (d:=d) (Z:=Z5) (.inr ⟨rfl,rfl⟩) (by
  rcases hc with hc|hc
  ·exact .inr (.inl ⟨rfl,hc⟩)
  ·exact .inr (.inr ⟨rfl,hc⟩))
 rcases a2 with ⟨h0,_⟩|⟨vl,h0,hvl,hwt,hf,hr⟩
 ·obtain ⟨_,_,t,p2⟩:=ZbQ (Qef (fun l'=>S.dir[l']?)) h0 h.q (h0.qs.small pp) (fun _ _=>rfl) (by omega) hl
  exact hL.oth (QcX p2.wf p.wf ((Jcp _ 6).trans rfl)) t
 ·exfalso
  obtain ⟨M,hM,_,_,hz⟩:=hwt
  rw [Xt hN] at hM
  cases hM
  by_cases hs0:(N.A.slot (l:Nat)).state=0
  ·rw [Zdy hL h.calm p hN hs0] at hr;cases hr
  ·have:=Xdp h.calm p hN hl
   rcases hc with ⟨rfl,a,b,c⟩|⟨rfl,a,_⟩
   ·omega
   ·
    have e6:N.A.ask (l:Nat) 6 2 d=([⟨2,(l:Nat),false,false,zeroL⟩],(N.A.set (l:Nat) 6 d).2):=by
     unfold Arr.ask
     rw [if_neg (by rw [XbY h.calm p hN];decide),if_neg (fun a=>a.1 rfl)]
    have q:=(h0.qs.nd i _ (Xt hN)).1.one rfl
    obtain ⟨m,hm,hml⟩:=q
    have hm':Xg N.up (N.A.ask (l:Nat) 6 2 d).1=[m]:=hm
    rw [e6,(h.calm.nd i N hN).1] at hm'
    have hg:=Zbq (kind:=2) (line:=(l:Nat)) (by decide) (by have:=p.wf.dir;have:=p.wf.c.lines;omega)
    have e7:Xg [] [(⟨2,(l:Nat),false,false,zeroL⟩:Ms)]=[⟨2,(l:Nat),false,false,zeroL⟩]:=by
     show (Qab [] _).1=_
     rw [Zay hg (by simp)];rfl
    rw [e7] at hm'
    cases hm'
    have evl:vl=l:=by
     have:((l:Nat):Int)=(vl:Nat):=hml
     omega
    subst evl
    have a3:=Qbh hn.gd.ok hn.gd.wf (by have:=hn.gd.used;omega) (line:=(vl:Nat)) (state:=6) (kind:=2) (d:=d) (by omega) (.inr (.inr ⟨rfl,rfl,a,by assumption⟩))
    rw [e6] at a3
    have hz':Z7 ((N.A.ask (vl:Nat) 6 2 d).2.slot (vl:Nat)).state:=hz
    rw [e6] at hz'
    generalize hms:([⟨2,(vl:Nat),false,false,zeroL⟩]:List Ms)=ms at a3
    cases a3 with
    | same _=>cases hms
    | ask0 h1 _ h2 _=>
     simp only [List.cons.injEq,Ms.mk.injEq,and_true] at hms
     rw [←hms.2] at h2
     have h2':((N.A.set (vl:Nat) 6 d).2.slot (vl:Nat)).state=_:=h2
     have:Z7 ((N.A.set (vl:Nat) 6 d).2.slot (vl:Nat)).state:=hz'
     unfold Z7 at this
     rw [h2'] at this
     omega
    | ask1 _ h2 _ _=>
     simp only [List.cons.injEq,Ms.mk.injEq,and_true,true_and] at hms
     rw [←hms] at h2
     have h2':((N.A.set (vl:Nat) 6 d).2.slot (vl:Nat)).state=_:=h2
     have:Z7 ((N.A.set (vl:Nat) 6 d).2.slot (vl:Nat)).state:=hz'
     unfold Z7 at this
     rw [h2'] at this
     omega
    | outc _ _ _=>simp at hms
    | outd _ _ _ _=>simp at hms
end
end Go.Proofs.YtmchcjaomcdbmaaGreat.Gen
namespace Go.Proofs.YtmchcjaomcdbmaaGreat.Gen
open Go Go.Proofs.YtmchcjaomcdbmaaGreat.Abs Go.RowKit
section
variable {S:Sys} {k i l:Nat} {Vs:Nat→Ln} {N:Nd}
theorem AtN.imp {P Q:Arr→Prop} (h:AtN S i P) (hi: ∀A,P A→Q A):AtN S i Q:=by
 obtain ⟨N,hN,hp⟩:=h
 exact ⟨N,hN,hi _ hp⟩
theorem Zev (h:Cm S k Vs) (hN:S.nodes[i]? =some N) (hl:l<S.dir.length) (h3:(N.A.slot (l:Nat)).state=3):S.drop (l:Nat)=(S,16):=by
 obtain ⟨E,hE⟩: ∃E,S.dir[l]? =some E:=⟨_,List.getElem?_eq_getElem hl⟩
 have ho:E.owner=(i:Nat):=Qgw (h.pr.at hN hE) (.inr h3)
 unfold Sys.drop
 rw [Sys.ent_of hE]
 simp only
 rw [if_pos (.inr (.inl (by omega)))]
theorem ZeQ {E:Ent} {V:Ln} {i s:Int} {d:Ln} {U Dn:List Ms} (h:Base E V i s d U Dn) (hs:s=9) (hu:U≠[]):isO E i:=by
 cases h<;>first|assumption|exact absurd rfl hu|(exfalso;omega)
def Td (i l:Nat) (S:Sys):Prop:= ∃N,S.nodes[i]? =some N∧((N.up=[]∧ ∃E,S.dir[l]? =some E∧E.here=true∧E.dirty=true∧E.owner<0∧nz E.share=false∧E.busy=0)∨ ∃m,N.up=[m]∧m.kind=3∧m.dirty=true∧(N.A.slot (l:Nat)).state=9)
def Tdc (l:Nat) (S:Sys):Prop:= ∃E,S.dir[l]? =some E∧E.here=true∧E.dirty=true∧E.owner<0∧nz E.share=false∧E.busy=0
theorem Td.up0 {i l:Nat} {S:Sys} (h:Td i l S) {U:Nat→Prop} {X Y:Nat→Prop} (hq:S.Qs l U X Y) (hu: ¬U i): ∃N E,S.nodes[i]? =some N∧N.up=[]∧S.dir[l]? =some E∧E.here=true∧E.dirty=true∧E.owner<0∧nz E.share=false∧E.busy=0:=by
 obtain ⟨N,hN,⟨h0,E,hE,hf⟩|⟨m,hm,_⟩⟩:=h
 ·exact ⟨N,E,hN,h0,hE,hf⟩
 ·have:=(hq.nd i N hN).1.nil hu
  rw [hm] at this;cases this
theorem keep_put {l i:Nat} {Vs:Nat→Ln}:Keep l i Vs (Td i l) (Tdc l) where
 up:=by
  intro S k h p hk ht
  obtain ⟨N,m,E,hN,hu,hE,hm,e,hs,hb,hkd,ei⟩:=ZfF h p
  obtain ⟨Ni,hNi,hT⟩:=ht
  obtain rfl:N=Ni:=by rw [hN] at hNi;exact Option.some.inj hNi
  rcases hT with ⟨a,_⟩|⟨m',hm',hk3,hdt,h9⟩
  ·rw [hu] at a;cases a
  ·rw [hu] at hm'
   obtain rfl:m=m':=by cases hm';rfl
   have ho:E.owner=(i:Nat):=by
    have cv:=p.at hN hE
    rw [h9,hu,Jcl,if_pos ⟨hm,by omega⟩] at cv
    have hb0:=h.bz E hE
    have bb:=(Xah cv hb0).2.1
    exact ZeQ bb rfl (fun e=>nomatch e)
   have hS9:(S.got l E).owner=(i:Nat):=by unfold Sys.got;split<;>exact ho
   obtain ⟨N',hN',hu'⟩:=XgE (Jfz (((S.setE l (S.got l E)).setN i { N with up:=[] }).setE l (Xax (S.got l E) (i:Nat) m).1) (l:Nat) (Xax (S.got l E) (i:Nat) m).2.1 i) (N:={ N with up:=[] }) (Xt (S:=S.setE l (S.got l E)) hN)
   rw [e]
   have hme:Mov.asked ⟨S.got l E,m.line,[]⟩ (i:Nat) m=Mov.put ⟨S.got l E,m.line,[]⟩ (i:Nat) m:=by
    unfold Mov.asked
    rw [if_neg (by omega),if_neg (by omega),if_pos hk3]
   have ge:=QaU ei
   have hsh:nz (S.got l E).share=false:=by
    have g0:GE (S.got l E):=by
     have hL:=(p.line l E hE)
     unfold Sys.got
     split
     ·exact QaU hL.ei
     ·rename_i hh
      exact QaU (Qcr hL.ei (by simpa using hh) hL.cv).1
    exact nz_no.2 (g0.ex (by omega))
   refine ⟨N',hN',.inl ⟨hu',(Xax (S.got l E) (i:Nat) m).1,?_,?_⟩⟩
   ·rw [(ZB _ _ _).1]
    show ((S.dir.set l _).set l _)[l]? =_
    rw [List.getElem?_set_self (by rw [List.length_set];exact Qd hE)]
   ·rw [hs,hme]
    have e5:(Mov.put ⟨S.got l E,m.line,[]⟩ (i:Nat) m).e=Ent.take { S.got l E with owner:= -1 } m:=by
     show (if (S.got l E).owner=(i:Nat) then Ent.take { S.got l E with owner:= -1 } m else _)=_
     rw [if_pos hS9]
    show (Mov.put ⟨S.got l E,m.line,[]⟩ (i:Nat) m).e.here=true∧(Mov.put ⟨S.got l E,m.line,[]⟩ (i:Nat) m).e.dirty=true∧(Mov.put ⟨S.got l E,m.line,[]⟩ (i:Nat) m).e.owner<0∧nz (Mov.put ⟨S.got l E,m.line,[]⟩ (i:Nat) m).e.share=false∧(Mov.put ⟨S.got l E,m.line,[]⟩ (i:Nat) m).e.busy=0
    rw [e5]
    unfold Ent.take
    rw [if_pos hdt]
    exact ⟨Jc5 S l E,rfl,(by show (-1:Int)<0;decide),hsh,hb⟩
 ans:=by
  intro S X Y j k h p hk hy ht
  obtain ⟨Ni,E,hNi,hu,hE,hf⟩:=ht.up0 h.qs id
  obtain ⟨E',hE',hb,_⟩:=h.e
  rw [hE] at hE';cases hE'
  exact absurd hf.2.2.2.2 hb
 hear:=by
  intro S X Y j k h p hk hx ht
  obtain ⟨Ni,E,hNi,hu,hE,hf⟩:=ht.up0 h.qs id
  obtain ⟨E',hE',hb,_⟩:=h.e
  rw [hE] at hE';cases hE'
  exact absurd hf.2.2.2.2 hb
 wr:=by
  intro S k h hq p hk ht
  obtain ⟨Ni,E,hNi,hu,hE,hf⟩:=ht.up0 h.qs id
  obtain ⟨E',hE',hb,_⟩:=h.e
  rw [hE] at hE';cases hE'
  exact absurd hf.2.2.2.2 (by omega)
 told:=by
  intro S i0 k h p hk ht
  obtain ⟨Ni,E,hNi,hu,hE,hf⟩:=ht.up0 h.qs id
  exact ⟨E,by rw [Jcm];exact hE,hf⟩
end
end Go.Proofs.YtmchcjaomcdbmaaGreat.Gen
namespace Go.Proofs.YtmchcjaomcdbmaaGreat.Gen
open Go Go.Proofs.YtmchcjaomcdbmaaGreat.Abs Go.RowKit
section
variable {S:Sys} {k i l:Nat} {V:Nat→Ln} {N:Nd}
theorem Zew (h:Cm S k V) (hk:k+201<100000) (hN:S.nodes[i]? =some N) (hl:l<S.dir.length) (h3:(N.A.slot (l:Nat)).state=3) (hL:Lone l S):
  (S.evict (i:Nat) (l:Nat)).2=0∧(S.evict (i:Nat) (l:Nat)).1.c=S.c∧(S.evict (i:Nat) (l:Nat)).1.wf (k+1)∧Cm (Zh 6 (S.evict (i:Nat) (l:Nat)).1) (k+201) V∧Tdc l (Zh 6 (S.evict (i:Nat) (l:Nat)).1)∧Lone l (Zh 6 (S.evict (i:Nat) (l:Nat)).1)∧AtN (Zh 6 (S.evict (i:Nat) (l:Nat)).1) i (fun A=>(A.slot (l:Nat)).state=0):=by
 have p:=h.pr
 have hn:=p.wf.nd i N hN
 have hok:=hn.gd.ok
 have hwf:=hn.gd.wf
 have hu:N.A.used<100000:=by have:=hn.gd.used;omega
 have hdl:=p.wf.dir
 have hlines:=p.wf.c.lines
 have hln:=XdH hok (line:=(l:Nat)) (by rw [h3];decide)
 have he:N.A.evict (l:Nat)=([QbL (N.A.slot (l:Nat))],(N.A.out (N.A.slot (l:Nat))).2,0):=by
  unfold Arr.evict
  rw [if_neg (by rw [XbY h.calm p hN];decide),if_neg (by rw [h3];decide)];rfl
 have hS:S.evict (i:Nat) (l:Nat)=(S.setN i { N with A:=(N.A.out (N.A.slot (l:Nat))).2,up:=Xg N.up [QbL (N.A.slot (l:Nat))] },0):=by
  unfold Sys.evict;rw [Sys.at_of hN];simp only;rw [if_neg (by rw [Xb6 hl];decide),he]
 have pp:=Xfu p (by decide) (by omega) (i:Nat) (l:Nat)
 have hw:=p.wf.evict (by omega) (i:Nat) (l:Nat)
 rw [hS] at pp hw ⊢
 have h9:((N.A.out (N.A.slot (l:Nat))).2.slot (l:Nat)).state=9:=by
  have a:=JbZ hok hwf hu (line:=(l:Nat)) (by omega) (by omega)
  generalize hm:(N.A.out (N.A.slot (l:Nat))).1=ms at a
  have hm2:ms=[QbL (N.A.slot (l:Nat))]:=hm.symm
  have hd3:decide ((N.A.slot (l:Nat)).state=3)=true:=decide_eq_true h3
  cases a with
  | same _=>cases hm2
  | ask0 h1 _ _ _=>simp [QbL] at hm2;omega
  | ask1 _ _ _ _=>simp [QbL] at hm2
  | outc h1 h2 _=>
   simp only [QbL,List.cons.injEq,Ms.mk.injEq,and_true,true_and] at hm2
   rw [hd3] at hm2
   exact absurd hm2.2.1 (by decide)
  | outd h1 h2 _ _=>
   simp only [QbL,List.cons.injEq,Ms.mk.injEq,and_true,true_and] at hm2
   rw [hln] at hm2
   rw [hm2.1] at h2;exact h2
 have hg:Xy (QbL (N.A.slot (l:Nat)))=true:=by
  unfold Xy QbL
  simp only
  rw [hln,decide_eq_true (show 1≤(3:Int)∧(3:Int)≤14∧0≤((l:Nat):Int)∧((l:Nat):Int)<64 by omega)]
  simp [h3]
 have h0:=ZfY (l:=l) h.calm hN (A':=(N.A.out (N.A.slot (l:Nat))).2) (m:=QbL (N.A.slot (l:Nat))) hln hg
 have hup:Xg N.up [QbL (N.A.slot (l:Nat))]=[QbL (N.A.slot (l:Nat))]:=by
  rw [(h.calm.nd i N hN).1]
  show (Qab [] _).1=_
  rw [Zay hg (by simp)];rfl
 obtain ⟨c,q,⟨t7,tp,to⟩,p2⟩:=ZbQ ((Jbf z7 (s0:=N.A.sets) (w0:=N.A.ways)).and (keep_put.and (Qef (fun l'=>S.dir[l']?)))) h0 h.q (h0.qs.small pp)
  ⟨⟨_,Xt hN,(Xa3 _ _ _ _).1,(Xa3 _ _ _ _).2,by show Z7 ((N.A.out (N.A.slot (l:Nat))).2.slot (l:Nat)).state;rw [h9];exact ⟨by decide,by decide⟩⟩,
   ⟨_,Xt hN,.inr ⟨_,hup,rfl,decide_eq_true h3,h9⟩⟩,fun _ _=>rfl⟩ (by omega) hl
 have ec:(Zh 6 (S.setN i { N with A:=(N.A.out (N.A.slot (l:Nat))).2,up:=Xg N.up [QbL (N.A.slot (l:Nat))] })).c=S.c:=(Jcp _ 6).trans rfl
 refine ⟨rfl,rfl,hw,⟨c,q,p2.le (Nat.le_refl 1) (by omega)⟩,tp,hL.oth (QcX p2.wf p.wf ec) to,?_⟩
 refine (Zgm t7).imp fun A ⟨B,e,hbok,hbwf,_,_,_⟩=> ?_
 rw [e,(Jdm hbok hbwf (l:Nat)).1];rfl
theorem XeC (h:Cm S k V) (hT:Tdc l S): ∃D1:Sys,S.drop (l:Nat)=(D1,0)∧D1.c=S.c∧D1.q=[⟨(l:Nat),V l⟩]∧D1.nodes=S.nodes∧D1.D=S.D∧D1.dir=S.dir.set l emptyEnt∧D1.pr 1 k V∧D1.calm:=by
 obtain ⟨E,hE,hh,hd,ho,hs,hb⟩:=hT
 have p:=h.pr
 have ei:=(p.line l E hE).ei
 have ge:=QaU ei
 have hdl:=p.wf.dir
 have hm:=p.wf.mem
 have hq9:=p.wf.c.queue
 have hlt:=Qd hE
 have hv:E.data=V l:=ei.val (by have:=ge.lo;omega) hh
 have hw:S.write l E=({ S with q:=[⟨(l:Nat),V l⟩] },0):=by
  unfold Sys.write
  rw [if_neg (by rw [hd];decide)]
  have e1:Qaz S.q S.D S.c.queue (l:Nat) E.data=([⟨(l:Nat),V l⟩],0):=by
   unfold Qaz Qca
   rw [if_pos (show (0:Int)≤(l:Nat)∧((l:Nat):Int)<S.D.mem.length by omega),if_neg (by decide),h.q,if_neg (by show ¬S.c.queue≤((0:Nat):Int);omega),hv];rfl
  rw [e1]
 have hS:S.drop (l:Nat)=(({ S with q:=[⟨(l:Nat),V l⟩] }:Sys).setE l emptyEnt,0):=by
  unfold Sys.drop
  rw [Sys.ent_of hE]
  simp only
  rw [if_neg (by rw [hh,hs];simp;omega),hw]
  simp only
  rw [if_neg (by decide)]
 have pp:=ZfZ p (l:Nat)
 rw [hS] at pp
 refine ⟨_,hS,rfl,rfl,rfl,rfl,rfl,pp,⟨fun j M hM=>h.calm.nd j M hM,fun l' E' hE'=> ?_⟩⟩
 have hE2:(S.dir.set l emptyEnt)[l']? =some E':=hE'
 by_cases e:l=l'
 ·subst e
  rw [List.getElem?_set_self hlt] at hE2
  cases hE2;rfl
 ·rw [List.getElem?_set_ne e] at hE2
  exact h.calm.bz l' E' hE2
theorem Qf1 {D1:Sys} (p:D1.pr 1 k V) (hq:D1.q=[⟨(l:Nat),V l⟩]) (hl:l<D1.dir.length):(over D1.q D1.D.mem).length=D1.c.lines.toNat∧(over D1.q D1.D.mem)[l]? =some (V l):=by
 have hm:=p.wf.mem
 have hd:=p.wf.dir
 rw [hq]
 refine ⟨by show (D1.D.mem.set ((l:Nat):Int).toNat (V l)).length=_;rw [List.length_set];exact hm,?_⟩
 show (D1.D.mem.set ((l:Nat):Int).toNat (V l))[l]? =_
 rw [Int.toNat_natCast,List.getElem?_set_self (by omega)]
theorem Zcc (h:S.P0 l i) (hup:(S.up (i:Nat)).1.P3 l i) {k':Nat} (p':(S.up (i:Nat)).1.pr 1 k' V) (hk:k'<100000): ∀n:Nat,(n≤i→JG n S=S)∧(i<n→JG n S=((S.up (i:Nat)).1.hear (i:Nat)).1)
 | 0=>⟨fun _=>rfl,fun h=>absurd h (by omega)⟩
 | n+1=>by
  obtain ⟨a,b⟩:=Zcc h hup p' hk n
  rw [XV]
  refine ⟨fun hn=> ?_,fun hn=> ?_⟩
  ·rw [a (by omega)]
   exact XaN h.qs (by omega) id id
  ·by_cases e:n=i
   ·subst e
    rw [a (Nat.le_refl _)]
    show (((S.up (n:Nat)).1.answer (n:Nat)).1.hear (n:Nat)).1=_
    rw [Zcs (fun N hN=>(hup.qs.nd n N hN).2.2.nil id)]
   ·rw [b (by omega)]
    exact XaN ((Qb5 hup p' hk).1.qs l) id id id
theorem Jfa {T:Sys} {d:Ln} (hq:T.q=[⟨(l:Nat),d⟩]) {m:Nat} (hm:m≠l):(T.drain (m:Nat)).1=T:=by
 unfold Sys.drain
 split
 ·rfl
 ·have e:JI T.q T.D (m:Nat)=(T.q,T.D,14):=by
   unfold JI
   rw [hq,List.findIdx?_cons,if_neg (by simp;omega)]
   rfl
  rw [e]
theorem Xct {T:Sys} {d:Ln} (h:T.calm) (hq:T.q=[⟨(l:Nat),d⟩]) (hl:l<T.dir.length): ∀n:Nat,(n≤l→Qak n T=T)∧(l<n→Qak n T=(T.drain (l:Nat)).1∧(T.drain (l:Nat)).1.q=[]∧(T.drain (l:Nat)).1.calm)
 | 0=>⟨fun _=>rfl,fun h=>absurd h (by omega)⟩
 | n+1=>by
  obtain ⟨a,b⟩:=Xct h hq hl n
  rw [X7]
  have hnp: ∀m:Nat,(T.push (m:Nat)).1=T:=fun m=>Qea (fun E hE=>Qa0 (h.bz m E hE))
  have hdq:(T.drain (l:Nat)).1.q=[]∧(T.drain (l:Nat)).1.calm:=by
   unfold Sys.drain
   rw [if_neg (by rw [Xb6 hl];decide)]
   refine ⟨?_,⟨h.nd,h.bz⟩⟩
   show (JI T.q T.D (l:Nat)).1=[]
   unfold JI
   rw [hq,List.findIdx?_cons,if_pos (by simp)];rfl
  refine ⟨fun hn=> ?_,fun hn=> ?_⟩
  ·rw [a (by omega)]
   unfold Sys.wr
   rw [hnp,Jfa hq (by omega)]
  ·refine ⟨?_,hdq⟩
   by_cases e:n=l
   ·subst e
    rw [a (Nat.le_refl _)]
    unfold Sys.wr
    rw [hnp]
   ·rw [(b (by omega)).1]
    exact Xec hdq.1 (fun E hE=>Qa0 (hdq.2.bz n E hE))
theorem Qgx (h:S.calm) (p:S.pr 1 k V) (hk:k+201<100000) (hq:S.q=[⟨(l:Nat),V l⟩]) (hE:S.dir[l]? =some emptyEnt) (hL:Lone l S) (hN:S.nodes[i]? =some N) (h0:(N.A.slot (l:Nat)).state=0) {w:Int} (hw:0≤w∧w<8):
  (S.load (i:Nat) (l:Nat) w).2.2=false∧(S.load (i:Nat) (l:Nat) w).1.wf (k+1)∧Cm (Zh 6 (S.load (i:Nat) (l:Nat) w).1) (k+201) V∧AtN (Zh 6 (S.load (i:Nat) (l:Nat) w).1) i (fun A=>R12 (A.slot (l:Nat)).state)∧ ∃E,(Zh 6 (S.load (i:Nat) (l:Nat) w).1).dir[l]? =some E∧E.dirty=false:=by
 have hl:=Qd hE
 have hn:=p.wf.nd i N hN
 have hS:S.load (i:Nat) (l:Nat) w=(S.setN i { N with A:=(N.A.load (l:Nat) w).2,up:=Xg N.up (N.A.load (l:Nat) w).1 },N.A.loadV (l:Nat) w,N.A.loadHit (l:Nat) w):=by
  unfold Sys.load;rw [Sys.at_of hN];simp only;rw [if_neg (by rw [Xb6 hl];decide)]
 have hW:=Zc0 p hl hw
 have pp:=Qe6 p (by decide) (by omega) (i:Nat) (l:Nat) w
 have pw:=p.wf.load (by omega) (i:Nat) (l:Nat) w
 rw [hS] at pp pw ⊢
 have hh:N.A.loadHit (l:Nat) w=false:=by
  unfold Arr.loadHit Jfr
  rw [h0,hW];rfl
 have e:N.A.load (l:Nat) w=N.A.ask (l:Nat) 4 1 zeroL:=by
  unfold Arr.load
  rw [if_neg (by rw [hW];decide),if_neg (by rw [hh];decide)]
 have hr:=Zdy hL h p hN h0
 have ea:N.A.ask (l:Nat) 4 1 zeroL=([⟨1,(l:Nat),false,false,zeroL⟩],(N.A.set (l:Nat) 4 zeroL).2):=by
  unfold Arr.ask
  rw [if_neg (by rw [XbY h p hN];decide),if_neg (fun a=>by rw [hr] at a;exact absurd a.2 (by decide))]
 have a2:=ZfC h p (by omega) hN hl (state:=4) (kind:=1) (d:=zeroL) (Z:=Z4) (.inl ⟨rfl,rfl⟩) (.inl ⟨rfl,rfl,by omega,by omega,by omega⟩)
 refine ⟨hh,pw,?_⟩
 rw [e] at pp ⊢
 simp only
 rcases a2 with ⟨hp0,hwt⟩|⟨_,_,_,_,_,hno⟩
 rotate_left
 ·rw [hr] at hno;cases hno
 have hg:=Zbq (kind:=1) (line:=(l:Nat)) (by decide) (by have:=p.wf.dir;have:=p.wf.c.lines;omega)
 have hupm:Xg N.up (N.A.ask (l:Nat) 4 1 zeroL).1=[⟨1,(l:Nat),false,false,zeroL⟩]:=by
  rw [ea,(h.nd i N hN).1]
  show (Qab [] _).1=_
  rw [Zay hg (by simp)];rfl
 have hnode:=Xt (a:={ N with A:=(N.A.ask (l:Nat) 4 1 zeroL).2,up:=Xg N.up (N.A.ask (l:Nat) 4 1 zeroL).1 }) hN
 have hq6:(S.setN i { N with A:=(N.A.ask (l:Nat) 4 1 zeroL).2,up:=Xg N.up (N.A.ask (l:Nat) 4 1 zeroL).1 }).q=[⟨(l:Nat),V l⟩]:=hq
 have hE6:(S.setN i { N with A:=(N.A.ask (l:Nat) 4 1 zeroL).2,up:=Xg N.up (N.A.ask (l:Nat) 4 1 zeroL).1 }).dir[l]? =some emptyEnt:=hE
 have hc6:(S.setN i { N with A:=(N.A.ask (l:Nat) 4 1 zeroL).2,up:=Xg N.up (N.A.ask (l:Nat) 4 1 zeroL).1 }).c=S.c:=rfl
 have hn6:(S.setN i { N with A:=(N.A.ask (l:Nat) 4 1 zeroL).2,up:=Xg N.up (N.A.ask (l:Nat) 4 1 zeroL).1 }).nodes[i]? =some { N with A:=(N.A.ask (l:Nat) 4 1 zeroL).2,up:=[⟨1,(l:Nat),false,false,zeroL⟩] }:=by rw [←hupm];exact hnode
 have p6:=hp0.qs.small pp
 generalize S.setN i { N with A:=(N.A.ask (l:Nat) 4 1 zeroL).2,up:=Xg N.up (N.A.ask (l:Nat) 4 1 zeroL).1 }=S6 at*
 obtain ⟨M,m,E,hM,hum,hE',hml,eu,ha,hb,hkd,ei⟩:=ZfF hp0 p6
 rw [hE6] at hE'
 obtain rfl:emptyEnt=E:=Option.some.inj hE'
 have hk1:m.kind=1:=by
  rw [hn6] at hM
  have hMu:M.up=[⟨1,(l:Nat),false,false,zeroL⟩]:=by rw [←Option.some.inj hM]
  rw [hum] at hMu
  cases hMu;rfl
 have hgot:(S6.got l emptyEnt).owner= -1∧(S6.got l emptyEnt).share=0#8∧(S6.got l emptyEnt).dirty=false:=⟨rfl,rfl,rfl⟩
 have hasked:Mov.asked ⟨S6.got l emptyEnt,m.line,[]⟩ (i:Nat) m=Mov.own ⟨S6.got l emptyEnt,m.line,[]⟩ (i:Nat) 9:=by
  unfold Mov.asked Mov.getS
  rw [if_pos hk1,if_neg (by show ¬(0≤(-1:Int)∧_);omega),if_pos (by rfl)]
 have hE1: ∃E1,(S6.up (i:Nat)).1.dir[l]? =some E1∧E1.busy=0∧E1.dirty=false:=by
  rw [eu,(ZB _ _ _).1]
  refine ⟨(Xax (S6.got l emptyEnt) (i:Nat) m).1,?_,?_⟩
  ·show ((S6.dir.set l _).set l _)[l]? =_
   rw [List.getElem?_set_self (by rw [List.length_set];exact Qd hE6)]
  ·rw [ha,hasked];exact ⟨rfl,rfl⟩
 obtain ⟨E1,hE1,hb1,hd1⟩:=hE1
 obtain ⟨hcase,p7⟩:=Jgh hp0 p6 (by omega)
 have h3:(S6.up (i:Nat)).1.P3 l i:=by
  rcases hcase with ⟨X,a⟩|a|a
  ·obtain ⟨E2,hE2,hb2,_⟩:=a.e
   rw [hE1] at hE2;cases hE2
   exact absurd hb1 hb2
  ·obtain ⟨E2,hE2,hb2,_⟩:=a.e
   rw [hE1] at hE2;cases hE2
   omega
  ·exact a
 obtain ⟨hcalm,p8⟩:=Qb5 h3 p7 (by omega)
 have hwt2:Wt i l N.A.sets N.A.ways Z4 (S6.up (i:Nat)).1:=(Jbf (Vs:=V) z4).up hp0 p6 (by omega) hwt
 have htold:=(Jbf (Vs:=V) z4).told h3 p7 (by omega) hwt2
 have hq8:((S6.up (i:Nat)).1.hear (i:Nat)).1.q=[⟨(l:Nat),V l⟩]:=(QfM _ _).trans ((QgM _ _).trans hq6)
 have hdir8:((S6.up (i:Nat)).1.hear (i:Nat)).1.dir[l]? =some E1:=by rw [Jcm];exact hE1
 have hlt6:=hp0.lt
 have hcores:=p6.wf.nodes
 have hc1:=(Zcc hp0 h3 p7 (by omega) S6.c.cores.toNat).2 (by omega)
 have hl8:=Qd hdir8
 have hd8:=p8.wf.dir
 have hc8:((S6.up (i:Nat)).1.hear (i:Nat)).1.c=S6.c:=(JfR _ _).trans (QgL _ _)
 obtain ⟨e1,e2,e3⟩:=(Xct hcalm hq8 hl8 S6.c.lines.toNat).2 (by rw [hc8] at hd8;omega)
 have p9:=Xed p8 (l:Nat)
 have hround:S6.round=(((S6.up (i:Nat)).1.hear (i:Nat)).1.drain (l:Nat)).1:=by
  unfold Sys.round
  rw [hc1,e1]
 have hsettle:Zh 6 S6=(((S6.up (i:Nat)).1.hear (i:Nat)).1.drain (l:Nat)).1:=by
  show Zh 5 S6.round=_
  rw [hround,ZbG e3 e2]
 rw [hsettle]
 refine ⟨⟨e3,e2,p9.le (Nat.le_refl 1) (by omega)⟩,?_,E1,?_,hd1⟩
 ·exact (Xgw htold).same (SameA.drain _ _)
 ·have:(((S6.up (i:Nat)).1.hear (i:Nat)).1.drain (l:Nat)).1.dir=((S6.up (i:Nat)).1.hear (i:Nat)).1.dir:=by unfold Sys.drain;split<;>rfl
  rw [this];exact hdir8
end
end Go.Proofs.YtmchcjaomcdbmaaGreat.Gen
namespace Go.Proofs.YtmchcjaomcdbmaaGreat.Gen
open Go Go.Proofs.YtmchcjaomcdbmaaGreat.Abs Go.RowKit
variable {g:G} {n:Nat}
section
variable {o:Col Cl} {l:Nat} {W:ZbA} {S:Sys} {K:Cont} {k:Nat} {Vs:Nat→Ln}
theorem Qd2 (h:SysH o g l W S) (hc:Cm S k Vs) (hk:k+1000<100000) {x:Stp} {i ln:Nat} (hi:(i:Int)<S.c.cores) (hl:(ln:Int)<S.c.lines) (ex:x.core=(i:Nat)) (el:x.line=(ln:Nat)) (hw:0≤x.word∧x.word<8) (hL:Lone ln S)
  (hK: ∀o' g' n' W' S',Sub (unc o g) (unc o' g')→SysH o' g' l W' S'→Cm S' (k+603) (Xfq Vs (ln:Nat) x.word x.val)→S'.c=S.c→AtN S' i (fun A=>(A.slot (ln:Nat)).state=3)→Lone ln S'→K (.bool true) g' n'):
  AC Q6 [ptr l 0,.agg (Jr S.c).toArray,.agg (Zu x).toArray] g n K:=by
 refine ACalls.fold Jb ?_
 rw [←Xbf]
 simp only [QaK,Qf]
 intro hn
 have s1:=(Sub.refl g).new hn (some (.cells (Jr S.c) .exact))
 have x1:unc o (upd g n (some (.cells (Jr S.c) .exact))) n=some (.cells (Jr S.c) .exact):=Qcy h hn _
 have h1:=h.mono s1
 have u1:=Sub.uncs h.live s1
 generalize upd g n (some (.cells (Jr S.c) .exact))=g1 at s1 x1 h1 u1
 intro hn2
 have s2:=(Sub.refl g1).new hn2 (some (.cells (Zu x) .exact))
 have x2:unc o (upd g1 (n+1) (some (.cells (Zu x) .exact))) (n+1)=some (.cells (Zu x) .exact):=Qcy h1 hn2 _
 have h2:=h1.mono s2
 have u2:=u1.trans (Sub.uncs h1.live s2)
 have x1':=(Sub.uncs h1.live s2).live x1
 generalize upd g1 (n+1) (some (.cells (Zu x) .exact))=g2 at s2 x2 h2 u2 x1'
 refine JY (m:=3) (Inv:=fun m t g9 n9=> ∃(j:Nat) (o9:Col Cl) (W9:ZbA) (S9:Sys),m+j=3∧j≤2∧Sub (unc o g2) (unc o9 g9)∧SysH o9 g9 l W9 S9∧Cm S9 (k+201*j) Vs∧S9.c=S.c∧Lone ln S9∧Rdy R2 i ln j S9∧t 0=ptr l 0∧t 4=ptr n 0∧t 5=ptr (n+1) 0∧t 7= .int .i64 (j:Nat)) ?_
  ⟨0,o,W,S,rfl,by decide,Sub.refl _,h2,hc,rfl,hL,trivial,rfl,rfl,rfl,rfl⟩
 rintro I m t g9 n9 ih ⟨j,o9,W9,S9,hm,hj2,u9,h9,hc9,c9,hL9,hr,t0,t4,t5,t7⟩
 simp only [Jau,t0,t4,t5,t7,Zc]
 have xs:=(Xq _ _).live (u9.live x2)
 refine JeK (QB (fun hlt=> ?_) (fun hlt=>absurd hlt (by omega)))
 refine Qb xs (show (Zu x)[0+1]? =some (.int .i64 x.core) from rfl) (Qb xs (show (Zu x)[0+2]? =some (.int .i64 x.line) from rfl) (Qb xs (show (Zu x)[0+3]? =some (.int .i64 x.word) from rfl) (Qb xs (show (Zu x)[0+4]? =some (.int .u64 x.val) from rfl) ?_)))
 rw [ex,el]
 refine ZbF h9 (hc9.pr.wf.fit (by omega)) _ _ _ _ (fun o3 g3 n3 W3 u3 h3=> ?_)
 obtain ⟨N,hN⟩:=hc9.node (i:=i) (by rw [c9];exact hi)
 have hld:ln<S9.dir.length:=by have:=hc9.pr.wf.dir;rw [c9] at this;omega
 obtain ⟨lo1,lo2⟩:=QeK hL9 hc9 (by omega) hN hld hw (v:=x.val)
 rcases ZeK hc9 (by omega) hN hld hw (v:=x.val) hj2 hr with ⟨b1,b2,M,hM,b3,_⟩|⟨b1,b2,b3,b4⟩
 ·rw [b1]
  refine Jh rfl ?_
  exact Ja (Sub.refl _) (hK _ _ _ _ _ ((u2.trans u9).trans u3) h3 ⟨b2.calm,b2.q,b2.pr.le (Nat.le_refl 1) (by omega)⟩ ((Zem _ _ _ _ _).trans c9) ⟨M,hM,b3⟩ (lo1 b1))
 ·rw [b2]
  refine Zd rfl ?_
  have e4:(S9.store (i:Nat) (ln:Nat) x.word x.val).1.c=S.c:=(Zem _ _ _ _ _).trans c9
  have w4:(S9.store (i:Nat) (ln:Nat) x.word x.val).1.wf (k+201*j+1):=hc9.pr.wf.store (by omega) _ _ _ _
  refine Ju ((Xq _ _).live ((u9.trans u3).live x1')) (by simp [Jr]) ?_
  rw [show ((Jr S.c).drop 0).take 7=Jr S.c from rfl,←e4]
  refine QbI h3 w4 (by omega) (fun o5 g5 n5 W5 u5 h5=> ?_)
  rw [Jo,ZaZ (by omega)]
  refine ih (m-1) _ _ _ (by omega) ⟨j+1,o5,W5,_,by omega,by omega,(u9.trans u3).trans u5,h5,⟨b3.calm,b3.q,b3.pr.le (Nat.le_refl 1) (by omega)⟩,(Jcp _ 6).trans e4,lo2 b2,b4,t0,t4,t5,rfl⟩
end
theorem Jgw {o:Col Cl} {g:G} {l:Nat} {b:Blk} (h:unc o g l=some b):o l=none∧g l=some b:=by
 unfold unc at h
 split at h
 ·rename_i e;exact ⟨e,h⟩
 ·cases h
theorem Qen {S:Sys} {l:Nat} (hE:S.dir[l]? =some emptyEnt):S.drop (l:Nat)=(S,16):=by
 unfold Sys.drop
 rw [Sys.ent_of hE]
 simp only
 rw [if_pos (.inl rfl)]
theorem Zc6 {S:Sys} {l:Nat} {E:Ent} (hE:S.dir[l]? =some E):S.entry (l:Nat)=E:=by
 unfold Sys.entry
 rw [Sys.ent_of hE]
theorem JfH {K:Cont} (hK: ∀g' n',K (.bool true) g' n') {c:Cfg} (hc12:c.lines≤12) {o:Col Cl} {g:G} {n l l2 l3:Nat} {W:ZbA} {S:Sys} {x:Stp} {i ln k:Nat} {V:Nat→Ln} {N:Nd} (hk:k+1000<100000) (h:SysH o g l W S) (ec:S.c=c) (x2:unc o g l2=some (.cells (Jr c) .exact)) (x3:unc o g l3=some (.cells (Zu x) .exact))
  (ex:x.core=(i:Nat)) (el:x.line=(ln:Nat)) (hw:0≤x.word∧x.word<8) (hV:QaX (V ln) x.word=x.val) (hcalm:S.calm) (p:S.pr 1 k V) (hq:S.q=[⟨(ln:Nat),V ln⟩]) (hE:S.dir[ln]? =some emptyEnt) (hL:Lone ln S) (hN:S.nodes[i]? =some N) (h0:(N.A.slot (ln:Nat)).state=0)
  {t:Env} (t2:t 2=ptr l2 0) (t3:t 3=ptr l3 0) (t5:t 5=ptr l 0) (t8:t 8= .int .i64 0):lfp (QC AC K) t g n:=by
 obtain ⟨r1,r2,r3,r4,E,r5,r6⟩:=Qgx hcalm p (by omega) hq hE hL hN h0 hw
 generalize hT:Zh 6 (S.load (i:Nat) (ln:Nat) x.word).1=T at r3 r4 r5
 have hfit:=p.wf.fit (show k<100000 by omega)
 have d1:(Zu x)[0+1]? =some (.int .i64 x.core):=rfl
 have d2:(Zu x)[0+2]? =some (.int .i64 x.line):=rfl
 have d3:(Zu x)[0+3]? =some (.int .i64 x.word):=rfl
 have d4:(Zu x)[0+4]? =some (.int .u64 x.val):=rfl
 refine JY (m:=1) (Inv:=fun m t9 g9 n9=>(m=1∧g9=g∧t9 2=ptr l2 0∧t9 3=ptr l3 0∧t9 5=ptr l 0∧t9 8= .int .i64 0)∨(m=0∧ ∃(o9:Col Cl) (W9:ZbA),Sub (unc o g) (unc o9 g9)∧SysH o9 g9 l W9 T∧t9 2=ptr l2 0∧t9 3=ptr l3 0∧t9 5=ptr l 0∧t9 8= .int .i64 1)) ?_
  (.inl ⟨rfl,rfl,t2,t3,t5,t8⟩)
 rintro I m t9 g9 n9 ih (⟨rfl,rfl,q2,q3,q5,q8⟩|⟨rfl,o9,W9,u9,h9,q2,q3,q5,q8⟩)
 ·simp only [QC,q2,q3,q5,q8,Zc]
  refine JeK (Jh rfl ?_)
  have y3:=(Xq _ _).live x3
  refine Qb y3 d1 (Qb y3 d2 (Qb y3 d3 ?_))
  rw [ex,el]
  refine Zbt h hfit _ _ _ (fun o3 g3 n3 W3 u3 h3=> ?_)
  refine Xgf rfl (Xgf rfl ?_)
  rw [r1]
  refine Zd rfl ?_
  have e3:(S.load (i:Nat) (ln:Nat) x.word).1.c=c:=(Xf5 _ _ _ _).trans ec
  refine Ju ((Xq _ _).live (u3.live x2)) (by simp [Jr]) ?_
  rw [show ((Jr c).drop 0).take 7=Jr c from rfl,←e3]
  refine QbI h3 r2 (by omega) (fun o5 g5 n5 W5 u5 h5=> ?_)
  rw [hT] at h5
  rw [Jo,Xn (by decide) (by decide)]
  exact ih 0 _ _ _ (by decide) (.inr ⟨rfl,o5,W5,u3.trans u5,h5,q2,q3,q5,rfl⟩)
 ·simp only [QC,q2,q3,q5,q8,Zc]
  refine JeK (Jh rfl ?_)
  have y3:=(Xq _ _).live (u9.live x3)
  refine Qb y3 d1 (Qb y3 d2 (Qb y3 d3 ?_))
  rw [ex,el]
  refine Zbt h9 (r3.pr.wf.fit (by omega)) _ _ _ (fun o3 g3 n3 W3 u3 h3=> ?_)
  refine Xgf rfl (Xgf rfl ?_)
  obtain ⟨M,hM,hrd⟩:=r4
  rcases Xe2 r3 (by omega) hM (Qd r5) hw (s:=2) (by decide) ⟨M,hM,hrd⟩ with ⟨b1,b2,b3⟩|⟨b1,_⟩
  ·rw [b1,b3,hV]
   refine Jh rfl ?_
   have y3':=(Xq _ _).live ((u9.trans u3).live x3)
   refine Qb y3' d4 (Zc2 (QB (fun _=> ?_) (fun e=>absurd rfl e)))
   refine Qb y3' d2 ?_
   rw [el]
   refine Ja1 h3 _ (fun g4 n4 s4=> ?_)
   simp only [Qf]
   refine Qcx (XfG _) ?_
   have hd:(T.load (i:Nat) (ln:Nat) x.word).1.dir=T.dir:=by
    unfold Sys.load
    split
    ·rfl
    ·split<;>rfl
   rw [Zc6 (by rw [hd];exact r5),r6]
   refine Xbg (Jh rfl ?_)
   exact Zb6 fun _ _=>Ja (Sub.refl _) (hK _ _)
  ·exact absurd b1 (by decide)
set_option maxRecDepth 100000 in
theorem Xeo (c:Cfg) (x0:Stp) {K:Cont} (hK: ∀g' n',K (.bool true) g' n'):AC ZO [.agg (Jr c).toArray,.agg (Zu x0).toArray] g n K:=by
 refine ACalls.fold Jb ?_
 rw [←XaO]
 simp only [Qar,Qf]
 intro hn
 have s1:=(Sub.refl g).new hn (some (.cells (Jr c) .exact))
 have x1:upd g n (some (.cells (Jr c) .exact)) n=some (.cells (Jr c) .exact):=Xa _ _ _
 generalize upd g n (some (.cells (Jr c) .exact))=g1 at s1 x1 ⊢
 intro hn2
 have s2:=(Sub.refl g1).new hn2 (some (.cells (Zu x0) .exact))
 have y2:upd g1 (n+1) (some (.cells (Zu x0) .exact)) (n+1)=some (.cells (Zu x0) .exact):=Xa _ _ _
 have x2:=s2.live x1
 generalize upd g1 (n+1) (some (.cells (Zu x0) .exact))=g2 at s2 y2 x2 ⊢
 have wk: ∀g' n',Qc K (.bool true) g' n':=fun g' n'=>Ja (Sub.refl _) (hK _ _)
 refine Ju x2 (by simp [Jr]) ?_
 rw [show ((Jr c).drop 0).take 7=Jr c from rfl]
 refine Qeq c (fun g3 n3 s3=>Xbg (Zx (fun _=>Zb6 wk) (fun hg=> ?_)))
 have hgood:Xcx c=true:=by simpa using hg
 have hc:=Zfn hgood
 have hcores:=hc.cores
 have hlines:=hc.lines
 have x3:=s3.live x2
 have y3:=s3.live y2
 refine Qb x3 (show (Jr c)[0+1]? =some (.int .i64 c.lines) from rfl) (Jgz (QB (fun _=>Zb6 wk) (fun hl12=> ?_)))
 refine Ju x3 (by simp [Jr]) ?_
 rw [show ((Jr c).drop 0).take 7=Jr c from rfl]
 refine Zdw c (img:=[]) Sl.nil (fun hb=>absurd ⟨hgood,.inl rfl⟩ hb) (fun _ _ l o5 g5 n5 W5 u5 h5=> ?_)
 refine Xgf rfl (Xgf rfl (Jb0 (Zd (decide_eq_false (fun e=>e rfl)) (ZbP (Zd rfl ?_)))))
 have x5:=(Xq _ _).live (u5.live x3)
 have y5u:=u5.live y3
 have y5:=(Xq _ _).live y5u
 have xu5:=u5.live x3
 have o3:o5 (n+1)=none:=(Jgw y5u).1
 refine Qb y5 (show (Zu x0)[0+1]? =some (.int .i64 x0.core) from rfl) (Qb x5 (show (Jr c)[0+0]? =some (.int .i64 c.cores) from rfl) (Qb y5 (show (Zu x0)[0+2]? =some (.int .i64 x0.line) from rfl) (Qb x5 (show (Jr c)[0+1]? =some (.int .i64 c.lines) from rfl) (Qb y5 (show (Zu x0)[0+3]? =some (.int .i64 x0.word) from rfl) (Qb y5 (show (Zu x0)[0+4]? =some (.int .u64 x0.val) from rfl) ?_)))))
 simp only [Zc]
 refine Xdd _ (by omega) (by omega) (fun n6=>⟨rfl,rfl,rfl,rfl,?_⟩)
 refine Xdd _ (by omega) (by omega) (fun n7=>⟨rfl,rfl,?_⟩)
 refine Xdd _ (by omega) (by omega) (fun n8=>⟨rfl,Xfi ?_⟩)
 have i0:=Int.emod_nonneg x0.core (show c.cores≠0 by omega)
 have i1:=Int.emod_lt_of_pos x0.core (show 0<c.cores by omega)
 have l0:=Int.emod_nonneg x0.line (show c.lines≠0 by omega)
 have l1:=Int.emod_lt_of_pos x0.line (show 0<c.lines by omega)
 have w0:=Int.emod_nonneg x0.word (show (8:Int)≠0 by omega)
 have w1:=Int.emod_lt_of_pos x0.word (show (0:Int)<8 by omega)
 obtain ⟨i,hi⟩: ∃i:Nat,x0.core%c.cores=(i:Nat):=⟨(x0.core%c.cores).toNat,by omega⟩
 obtain ⟨ln,hln⟩: ∃ln:Nat,x0.line%c.lines=(ln:Nat):=⟨(x0.line%c.lines).toNat,by omega⟩
 rw [hi,hln]
 refine XgF (x:=⟨0,(i:Nat),(ln:Nat),x0.word%8,x0.val⟩) y5 ?_
 have h6:=h5.same (Qd7 o3 (some (.cells (Zu ⟨0,(i:Nat),(ln:Nat),x0.word%8,x0.val⟩) .exact)))
 have hne:n≠n+1:=by omega
 have xu6:unc o5 (upd g5 (n+1) (some (.cells (Zu ⟨0,(i:Nat),(ln:Nat),x0.word%8,x0.val⟩) .exact))) n=some (.cells (Jr c) .exact):=by
  have:=Jgw xu5
  rw [Jm this.1,Xc _ _ hne];exact this.2
 have yu6:unc o5 (upd g5 (n+1) (some (.cells (Zu ⟨0,(i:Nat),(ln:Nat),x0.word%8,x0.val⟩) .exact))) (n+1)=some (.cells (Zu ⟨0,(i:Nat),(ln:Nat),x0.word%8,x0.val⟩) .exact):=by rw [Jm o3,Xa]
 generalize hx:(⟨0,(i:Nat),(ln:Nat),x0.word%8,x0.val⟩:Stp)=x at h6 xu6 yu6
 have ex:x.core=(i:Nat):=by rw [←hx]
 have el:x.line=(ln:Nat):=by rw [←hx]
 have hw:0≤x.word∧x.word<8:=by rw [←hx];exact ⟨w0,w1⟩
 generalize upd g5 (n+1) (some (.cells (Zu x) .exact))=g6 at h6 xu6 yu6
 have hcm:=Qgu hc
 have hE0: ∀l':Nat,l'<(XaP c []).dir.length→(XaP c []).dir[l']? =some emptyEnt:=by
  intro l' hl'
  have:l'<c.lines.toNat:=by simpa [XaP] using hl'
  show (List.replicate c.lines.toNat emptyEnt)[l']? =_
  rw [List.getElem?_replicate,if_pos this]
 have hlen:(XaP c []).dir.length=c.lines.toNat:=by simp [XaP]
 have d2:(Zu x)[0+2]? =some (.int .i64 x.line):=rfl
 have d1:(Zu x)[0+1]? =some (.int .i64 x.core):=rfl
 refine Qb ((Xq _ _).live yu6) d2 ?_
 rw [el]
 refine Xb7 h6 hcm.pr.wf.shp _ (fun o7 g7 n9 W7 u7 h7=> ?_)
 rw [Qen (hE0 ln (by omega))] at h7 ⊢
 refine Jb0 (Zd (decide_eq_false (fun e=>e rfl)) ?_)
 refine Ju ((Xq _ _).live (u7.live xu6)) (by simp [Jr]) ?_
 rw [show ((Jr c).drop 0).take 7=Jr c from rfl]
 refine Ju ((Xq _ _).live (u7.live yu6)) (by simp [Zu]) ?_
 rw [show ((Zu x).drop 0).take 5=Zu x from rfl]
 refine Qd2 (S:=XaP c []) h7 hcm (by decide) (i:=i) (ln:=ln) (by show (i:Int)<c.cores;omega) (by show (ln:Int)<c.lines;omega) ex el hw (fun l' _ hl'=>hE0 l' hl') (fun o8 g8 n10 W8 S8 u8 h8 c8 ec8 a8 L8=> ?_)
 have ec8:S8.c=c:=ec8
 have u78:=u7.trans u8
 generalize hV:Xfq (fun _=>zeroL) (ln:Nat) x.word x.val=V at c8
 have hVv:QaX (V ln) x.word=x.val:=by rw [←hV];exact JfK _ _ hw.1 hw.2 _
 obtain ⟨N8,hN8,s3'⟩:=a8
 have hl8:ln<S8.dir.length:=by have:=c8.pr.wf.dir;rw [ec8] at this;omega
 refine Xbg (Zd rfl ?_)
 refine Qb ((Xq _ _).live (u78.live yu6)) d2 ?_
 rw [el]
 refine Xb7 h8 c8.pr.wf.shp _ (fun o9 g9 n11 W9 u9 h9=> ?_)
 rw [Zev c8 hN8 hl8 s3'] at h9 ⊢
 refine Jb0 (Zd (decide_eq_false (fun e=>e rfl)) ?_)
 have u89:=u78.trans u9
 have yy9:=(Xq _ _).live (u89.live yu6)
 refine Qb yy9 d1 (Qb yy9 d2 ?_)
 rw [ex,el]
 refine Xd2 h9 (c8.pr.wf.fit (by omega)) _ _ (fun oa ga na Wa ua ha=> ?_)
 obtain ⟨v1,v2,v3,v4,v5,v6,v7⟩:=Zew c8 (by omega) hN8 hl8 s3' L8
 rw [v1]
 refine Jb0 (Zd (decide_eq_false (fun e=>e rfl)) ?_)
 have u8a:=u89.trans ua
 have ev2:(S8.evict (i:Nat) (ln:Nat)).1.c=c:=v2.trans ec8
 refine Ju ((Xq _ _).live (u8a.live xu6)) (by simp [Jr]) ?_
 rw [show ((Jr c).drop 0).take 7=Jr c from rfl,←ev2]
 refine QbI ha v3 (by omega) (fun ob gb nb Wb ub hb=> ?_)
 have u8b:=u8a.trans ub
 have ecT:(Zh 6 (S8.evict (i:Nat) (ln:Nat)).1).c=c:=(Jcp _ 6).trans ev2
 generalize Zh 6 (S8.evict (i:Nat) (ln:Nat)).1=T at v4 v5 v6 v7 hb ecT
 obtain ⟨NT,hNT,zT⟩:=v7
 refine Qb ((Xq _ _).live (u8b.live yu6)) d1 ?_
 rw [ex]
 refine Xcr hb (v4.pr.wf.fit (by omega)) _ (fun vs gc nc Wc uc hcc sl=> ?_)
 rw [Jeq v6 v4.calm v4.pr hNT zT] at sl
 refine sl.len (Jb0 (Zd (decide_eq_false (fun e=>e rfl)) ?_))
 have u8c:=u8b.trans uc
 refine Qb ((Xq _ _).live (u8c.live yu6)) d2 ?_
 rw [el]
 refine Ja1 hcc _ (fun gd nd sd=> ?_)
 simp only [Qf]
 obtain ⟨ET,hET,hTh,hTd,hTo,hTs,hTb⟩:=id v5
 refine Qcx (XfG _) ?_
 rw [Zc6 hET,hTd]
 refine Xbg (Zd rfl ?_)
 have hd:=hcc.mono sd
 have u8d:=u8c.trans (Sub.uncs hcc.live sd)
 refine Qb ((Xq _ _).live (u8d.live yu6)) d2 ?_
 rw [el]
 refine Xb7 hd v4.pr.wf.shp _ (fun oe ge ne We ue he=> ?_)
 obtain ⟨D1,e1,e2,e3,e4,e5,e6,e7,e8⟩:=XeC v4 v5
 rw [e1] at he ⊢
 refine Jb0 (Zd (decide_eq_false (fun e=>e rfl)) ?_)
 have u8e:=u8d.trans ue
 refine Qb ((Xq _ _).live (u8e.live yu6)) d2 ?_
 rw [el]
 have hED:D1.dir[ln]? =some emptyEnt:=by rw [e6];exact List.getElem?_set_self (Qd hET)
 refine Ja1 he _ (fun gf nf sf=> ?_)
 simp only [Qf]
 refine Qcx (ZeW _) ?_
 rw [Zc6 hED]
 refine Zd rfl ?_
 have hf:=he.mono sf
 have u8f:=u8e.trans (Sub.uncs he.live sf)
 refine ZdH hf e7.wf.shp e7.wf.inr (fun vm gg ng sg og=> ?_)
 have hgg:=hf.mono sg
 have u8g:=u8f.trans (Sub.uncs hf.live sg)
 obtain ⟨m1,m2⟩:=Qf1 e7 e3 (Qd hED)
 have ecD:D1.c=c:=e2.trans ecT
 refine og.sl.len (Qb ((Xq _ _).live (u8g.live xu6)) (show (Jr c)[0+1]? =some (.int .i64 c.lines) from rfl) (Jb0 (QB (fun hne=>absurd hne (by rw [m1,ecD];omega)) (fun _=> ?_))))
 have yg:=(Xq _ _).live (u8g.live yu6)
 refine Qb yg d2 (Qb yg (show (Zu x)[0+3]? =some (.int .i64 x.word) from rfl) ?_)
 rw [el]
 refine og.sl.idx Jd m2 (fun la oal hat=> ?_)
 refine Zf4 hat hw (fun pz lz oz=> ?_)
 refine Qb yg (show (Zu x)[0+4]? =some (.int .u64 x.val) from rfl) (Jb0 (QB (fun hne=>absurd hVv hne) (fun _=> ?_)))
 refine Jc7 hgg e7.wf.shp (fun vw gh nh sh oh=> ?_)
 have hh:=hgg.mono sh
 have u8h:=u8g.trans (Sub.uncs hgg.live sh)
 refine oh.sl.len (Jb0 (QB (fun hne=>absurd (by rw [e3];rfl) hne) (fun _=> ?_)))
 refine JfH hK (by omega) (k:=0+603+201) (by decide) hh ecD (u8h.live xu6) (u8h.live yu6) ex el hw hVv e8 e7 e3 hED (fun l' hl' hlt=> ?_) (by rw [e4];exact hNT) zT rfl rfl rfl rfl
 rw [e6,List.getElem?_set_ne (fun a=>hl' a.symm)]
 rw [e6,List.length_set] at hlt
 exact v6 l' hl' hlt
end Go.Proofs.YtmchcjaomcdbmaaGreat.Gen
namespace Go.Proofs.YtmchcjaomcdbmaaGreat.Gen
open Go Go.Proofs.YtmchcjaomcdbmaaGreat.Abs Go.RowKit
variable {g:G} {n:Nat}
theorem Qdc {args:List Value} (hr:Zey g [(true,[.i .i64,.i .i64,.i .i64,.i .i64,.i .i64,.i .i64,.i .i64]),(true,[.i .i64,.i .i64,.i .i64,.i .i64,.i .u64])] args) {K:Cont} (hK: ∀g' n',K (.bool true) g' n'):AC ZO args g n K:=by
 cases hr with
 | cons h1 hr=>
 cases hr with
 | cons h3 hr=>
 cases hr
 obtain ⟨cs,e,h1⟩:=h1
 obtain ⟨c,e1⟩:=Xgu _ h1
 obtain ⟨cs3,e3,h3⟩:=h3
 obtain ⟨x,e4⟩:=Qgp _ h3
 subst e1 e4 e e3
 exact Xeo c x hK
end Go.Proofs.YtmchcjaomcdbmaaGreat.Gen
