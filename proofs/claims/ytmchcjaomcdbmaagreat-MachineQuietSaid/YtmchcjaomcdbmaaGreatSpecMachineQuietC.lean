import Derived.Test.YtmchcjaomcdbmaaGreatSpecMachineQuietB
/- What the functions come to. -/
set_option linter.all false
set_option linter.deprecated false
namespace Go.Proofs.YtmchcjaomcdbmaaGreat.Gen
open Go Go.Proofs.YtmchcjaomcdbmaaGreat.Abs Go.RowKit
section
variable {g:G} {n:Nat}
def Jdj (c:Cfg):Bool:=decide ((1≤c.cores∧c.cores≤8)∧(2≤c.lines∧c.lines≤64)∧(1≤c.vol∧c.vol≤c.lines-1)∧(c.sets=1∨c.sets=2∨c.sets=4∨c.sets=8)∧(1≤c.ways∧c.ways≤8)∧(1≤c.queue∧c.queue≤16)∧(1≤c.store∧c.store≤16))
theorem Xfd {c:Cfg} (h:Jdj c=true):c.good:=by
 obtain ⟨a,b,d,e,f,i,j⟩:=of_decide_eq_true h
 exact ⟨a,b,d,e,f,i,j⟩
theorem Xio {a b:Int} {K:Value→Prop} (j: -9223372036854775808≤a-b) (E:a-b≤9223372036854775807) (h:K (.int .i64 (a-b))):Jb .int .sub (.int .i64 a) (.int .i64 b) K:=by
 have e:Jb .int .sub (.int .i64 a) (.int .i64 b) K=K (.int .i64 (IntKind.i64.wrap (a-b))):=by
  simp only [Jb,ZH]
  simp
 rw [e,Qg j E];exact h
theorem JeN (a b c:Int) {K:Cont} (j: ∀n',K (.bool (decide (b≤a∧a≤c))) g n'):AC Zg [.int .i64 a,.int .i64 b,.int .i64 c] g n K:=by
 refine ACalls.fold Xb ?_
 rw [←Xdz]
 simp only [Qdb]
 refine QeA (Jg (λh=>Jhk (lfE j ?_)) (λh=>lfE j ?_))
 ·exact decide_eq_decide.2 (by omega)
 ·exact (decide_eq_false (by omega)).symm
set_option maxHeartbeats 1000000 in
theorem XfS (c:Cfg) {K:Cont} (j: ∀g' n',Sub g g'→K (.bool (Jdj c)) g' n'):AC Jch [.agg (Ju c).toArray] g n K:=by
 refine ACalls.fold Xb ?_
 rw [←QeI]
 simp only [QeV,Xe]
 intro J
 have E:=(Sub.refl g).new J (some (.cells (Ju c) .exact))
 have hx:upd g n (some (.cells (Ju c) .exact)) n=some (.cells (Ju c) .exact):=Xa _ _ _
 generalize upd g n (some (.cells (Ju c) .exact))=I at E hx ⊢
 replace j: ∀n',K (.bool (Jdj c)) I n':=λn'=>j _ _ E
 unfold Jdj at j
 repeat' (first
  | refine Zb hx (show (Ju c)[0+0]? =some (.int .i64 c.cores) from rfl) ?_|refine Zb hx (show (Ju c)[0+1]? =some (.int .i64 c.lines) from rfl) ?_|refine Zb hx (show (Ju c)[0+2]? =some (.int .i64 c.vol) from rfl) ?_
  | refine Zb hx (show (Ju c)[0+3]? =some (.int .i64 c.sets) from rfl) ?_|refine Zb hx (show (Ju c)[0+4]? =some (.int .i64 c.ways) from rfl) ?_|refine Zb hx (show (Ju c)[0+5]? =some (.int .i64 c.queue) from rfl) ?_
  | refine Zb hx (show (Ju c)[0+6]? =some (.int .i64 c.store) from rfl) ?_
  | refine JeN _ _ _ (λ_=> ?_)|refine XaB ?_|refine Xio (by omega) (by omega) ?_|(refine Jg (λh=> ?_) (λh=> ?_))|refine lfE j ?_)
 all_goals first|exact decide_eq_decide.2 (by omega)|exact (decide_eq_false (by omega)).symm
set_option maxHeartbeats 1000000 in
theorem XfV (c:Cfg) {K:Cont} (j: ∀g' n',Sub g g'→K (.bool (Jdj c)) g' n'):AC Zay [.agg (Ju c).toArray] g n K:=by
 refine ACalls.fold Xb ?_
 rw [←Xcq]
 simp only [XbA,Xe]
 intro J
 have E:=(Sub.refl g).new J (some (.cells (Ju c) .exact))
 have hx:upd g n (some (.cells (Ju c) .exact)) n=some (.cells (Ju c) .exact):=Xa _ _ _
 generalize upd g n (some (.cells (Ju c) .exact))=I at E hx ⊢
 replace j: ∀n',K (.bool (Jdj c)) I n':=λn'=>j _ _ E
 unfold Jdj at j
 repeat' (first
  | refine Zb hx (show (Ju c)[0+0]? =some (.int .i64 c.cores) from rfl) ?_|refine Zb hx (show (Ju c)[0+1]? =some (.int .i64 c.lines) from rfl) ?_|refine Zb hx (show (Ju c)[0+2]? =some (.int .i64 c.vol) from rfl) ?_
  | refine Zb hx (show (Ju c)[0+3]? =some (.int .i64 c.sets) from rfl) ?_|refine Zb hx (show (Ju c)[0+4]? =some (.int .i64 c.ways) from rfl) ?_|refine Zb hx (show (Ju c)[0+5]? =some (.int .i64 c.queue) from rfl) ?_
  | refine Zb hx (show (Ju c)[0+6]? =some (.int .i64 c.store) from rfl) ?_
  | refine XaB ?_|refine QeA ?_|refine Jhk ?_|refine Qcv ?_|(refine Jg (λh=> ?_) (λh=> ?_))|refine lfE j ?_)
 all_goals first|exact decide_eq_decide.2 (by omega)|exact (decide_eq_false (by omega)).symm
end
section
variable {g:G} {n:Nat}
def QhO (c:Cfg) (img:List Ln):Dev:=if img=[] then ⟨List.replicate c.lines.toNat zeroL,c.vol.toNat⟩ else Dev.fail ⟨img,c.vol.toNat⟩
def JbV (c:Cfg) (img:List Ln):Sys:=⟨c,List.replicate c.cores.toNat (nd0 c),List.replicate c.lines.toNat ZK,[],QhO c img⟩
theorem Qib:Live (λ_=>(none:Option Cl)) g:=λ_ _ h=>nomatch h
theorem Ziq:unc (λ_=>(none:Option Cl)) g=g:=rfl
section
variable {K:Cont} {o:Col Cl}
theorem Jht {ld:Nat} {room:Int} {K:List Value→Prop} (k:K [ptr ld 0,.int .i64 room,.slice none 0 0]):Qf [.pointer none,.int .i64 0,.slice none 0 0] [(0,none,ptr ld 0),(1,none,.int .i64 room)] K:=⟨rfl,by decide,rfl,Nat.le_of_ble_eq_true rfl,k⟩
theorem XgD {ld:Nat} {room:Int} (I:1≤room∧room≤16) (E: ∀g' n' lq,g lq=none→Sub g g'→g' lq=some (.cells [ptr ld 0,.int .i64 room,.slice none 0 0] .exact)→K (.tuple #[ptr lq 0,.int .i64 0]) g' n'):AC Zda [ptr ld 0,.int .i64 room] g n K:=by
 refine ACalls.fold Xb ?_
 rw [←Zf7]
 simp only [Zgb]
 refine QaE (Xo (λh=>nomatch h) (λ_=>Qcv (Jg (λh=>absurd h (by omega)) (λ_=>Qf9 (Jg (λh=>absurd h (by omega)) (λ_=>Jht ?_))))))
 simp only [Xe]
 intro j
 exact Ja (Sub.refl _) (E _ _ n j ((Sub.refl g).new j _) (Xa _ _ _))
theorem Jgc {c:Cfg} {lq:Nat} {K:List Value→Prop} (k:K (Ju c++[.slice none 0 0,.slice none 0 0,ptr lq 0,.int .i64 0])):Qf (Ju ⟨0,0,0,0,0,0,0⟩++[.slice none 0 0,.slice none 0 0,.pointer none,.int .i64 0]) [(0,some 7,.agg (Ju c).toArray),(9,none,ptr lq 0)] K:=⟨rfl,by decide,rfl,Nat.le_of_ble_eq_true rfl,k⟩
theorem ZhU {t:Cl→Prop} {g':G} {l:Nat} {c:Cl} {b:Blk} (I:Live o g) (hs:Sub g g') (O:g l=none) (J:t c) (hb:g' l=some b):Kept t o (upd o l (some c)) g g'∧Live (upd o l (some c)) g':=by
 refine ⟨Xea I hs (λi=> ?_),λi d E=> ?_⟩
 ·by_cases h:i=l
  ·subst h;exact .inr ⟨O,c,J,Xa _ _ _⟩
  ·exact .inl (Zd _ _ h)
 ·by_cases h:i=l
  ·subst h;exact ⟨b,hb⟩
  ·rw [Zd _ _ h] at E
   obtain ⟨Q,j⟩:=I i d E
   exact ⟨Q,hs.live j⟩
def Jg0 (c:Cl):Prop:=c= .que∨c= .sys
theorem Zhp {c:Cfg} (hc:c.good) {t:Env} {l2 le lm:Nat} {D:Dev} (t2:t 2=ptr l2 0) (t6:t 6=ptr le 0) (hL:Live o g) (h2:unc o g l2=some (.cells (Ju c) .exact)) (hD:DevH o g le lm D)
  (hK: ∀l o' g' n' W',Sub (unc o g) (unc o' g')→SysH o' g' l W' ⟨c,List.replicate c.cores.toNat (nd0 c),List.replicate c.lines.toNat ZK,[],D⟩→K (.tuple #[ptr l 0,.int .i64 0]) g' n'):Xan AC K t g n:=by
 simp only [Xan,t2,t6,Qb]
 have V:=(JZ _ _).live h2
 refine Zb V (show (Ju c)[0+5]? =some (.int .i64 c.queue) from rfl) ?_
 refine XgD hc.queue (λE n3 lq fq Z J=> ?_)
 simp only [Xw,XC,QC]
 refine Zbq (Jg (λh=>absurd h (by decide)) (λ_=> ?_))
 refine Jt (Z.live V) (by simp [Ju]) ?_
 rw [show ((Ju c).drop 0).take 7=Ju c from rfl]
 refine Jgc ?_
 simp only [Xe]
 intro I
 obtain ⟨k3,U⟩:=ZhU (t:=Jg0) (c:=Cl.que) hL Z fq (.inl rfl) J
 have hq:(upd o lq (some Cl.que)) lq=some .que:=Xa _ _ _
 generalize upd o lq (some Cl.que)=j at k3 U hq
 have Q:Kept Jg0 j (upd j n3 (some .sys)) E (upd E n3 (some (.cells (Ju c++[.slice none 0 0,.slice none 0 0,ptr lq 0,.int .i64 0]) .exact))):=Kept.new (U.fresh I) I (.inr rfl) _
 have O:=U.new n3 Cl.sys (.cells (Ju c++[.slice none 0 0,.slice none 0 0,ptr lq 0,.int .i64 0]) .exact)
 have x4:upd E n3 (some (.cells (Ju c++[.slice none 0 0,.slice none 0 0,ptr lq 0,.int .i64 0]) .exact)) n3=_:=Xa _ _ _
 have Y:=(Sub.refl E).new I (some (.cells (Ju c++[.slice none 0 0,.slice none 0 0,ptr lq 0,.int .i64 0]) .exact))
 have os:(upd j n3 (some Cl.sys)) n3=some .sys:=Xa _ _ _
 have oq:(upd j n3 (some Cl.sys)) lq=some .que:=by rw [Zd _ _ (Qq J I).symm];exact hq
 generalize upd E n3 (some (.cells (Ju c++[.slice none 0 0,.slice none 0 0,ptr lq 0,.int .i64 0]) .exact))=g4 at Q O x4 Y ⊢
 generalize upd j n3 (some Cl.sys)=o4 at Q O os oq
 have kk:=k3.trans Q
 refine Xd2 (q:=[]) (D:=D) hc O os x4 ⟨oq,Y.live J,.inl ⟨rfl,rfl⟩⟩ (hD.kept kk (by simp [Jg0]) (by simp [Jg0])) (λo5 g5 n5 W5 u5 h5=> ?_)
 exact Ja (Sub.refl _) (hK _ _ _ _ _ (kk.unc.trans u5) h5)
theorem Jgd (c:Cfg) {v:Value} {img:List Ln} (hv:Sl Zq 8 g v img)
  (aa: ¬(Jdj c=true∧(img=[]∨(img.length:Int)=c.lines))→ ∀g' n',Sub g g'→K (.tuple #[.pointer none,.int .i64 1]) g' n')
  (hK:Jdj c=true→(img=[]∨(img.length:Int)=c.lines)→ ∀l o' g' n' W',Sub g (unc o' g')→SysH o' g' l W' (JbV c img)→K (.tuple #[ptr l 0,.int .i64 0]) g' n'):AC JcC [.agg (Ju c).toArray,v] g n K:=by
 refine ACalls.fold Xb ?_
 rw [←Qfg]
 simp only [Xfz,Xe]
 intro hn
 have s1:=(Sub.refl g).new hn (some (.cells (Ju c) .exact))
 have x1:upd g n (some (.cells (Ju c) .exact)) n=some (.cells (Ju c) .exact):=Xa _ _ _
 generalize upd g n (some (.cells (Ju c) .exact))=g1 at s1 x1 ⊢
 refine Jt x1 (by simp [Ju]) ?_
 rw [show ((Ju c).drop 0).take 7=Ju c from rfl]
 refine XfS c (λg2 n2 s2=>XaC (Xo (λh=> ?_) (λh=> ?_)))
 ·exact Ja (Sub.refl _) (aa (λa=>by rw [a.1] at h;cases h) _ _ (s1.trans s2))
 have ab:Jdj c=true:=by simpa using h
 have hc:=Xfd ab
 have x2:=s2.live x1
 have V:=s1.trans s2
 have U:=hv.mono V
 have ae:=hc.lines
 have ai:=hc.vol
 have el:((c.lines.toNat:Nat):Int)=c.lines:=by omega
 have ev:((c.vol.toNat:Nat):Int)=c.vol:=by omega
 have dev:(img=[]∨(img.length:Int)=c.lines)→ ∀(K2:Value→G→Nat→Prop),(∀le lm E j n3,Sub g2 (unc E j)→Live E j→DevH E j le lm ⟨List.replicate c.lines.toNat zeroL,c.vol.toNat⟩→K2 (.tuple #[ptr le 0,.int .i64 0]) j n3)→AC JbD [.int .i64 c.lines,.int .i64 c.vol] g2 n2 K2:=by
  intro _ K2 ah
  have:=Qgp (g:=g2) (n:=n2) (o:=λ_=>none) Qib (lines:=c.lines.toNat) (vol:=c.vol.toNat) (by omega) (by omega) (by omega) (by omega) (K:=K2) (λld lm E j n3 k3 Q s3 O=>ah ld lm E j n3 (by have:=k3.unc;rwa [Ziq] at this) Q O)
  rw [el,ev] at this
  exact this
 have ac:img=[]→ ∀(t:Env) (E:Col Cl) (j:G) (n3 le lm:Nat),t 2=ptr n 0→t 6=ptr le 0→Sub g2 (unc E j)→Live E j→DevH E j le lm ⟨List.replicate c.lines.toNat zeroL,c.vol.toNat⟩→Xan AC K t j n3:=by
  intro Z t E j n3 le lm t2 t6 I Q O
  refine Zhp hc t2 t6 Q (I.live x2) O (λl o' g' n' W' u' h'=>hK ab (.inl Z) l o' g' n' W' ((V.trans I).trans u') ?_)
  unfold JbV QhO
  rw [if_pos Z];exact h'
 have ad:img≠[]→(img.length:Int)=c.lines→ ∀(t:Env) (E:Col Cl) (j:G) (n3 le lm:Nat),t 2=ptr n 0→t 6=ptr le 0→Sub g2 (unc E j)→Live E j→DevH E j le lm (Dev.fail ⟨img,c.vol.toNat⟩)→Xan AC K t j n3:=by
  intro Z af t E j n3 le lm t2 t6 I Q O
  refine Zhp hc t2 t6 Q (I.live x2) O (λl o' g' n' W' u' h'=>hK ab (.inr af) l o' g' n' W' ((V.trans I).trans u') ?_)
  unfold JbV QhO
  rw [if_neg Z];exact h'
 refine U.len ?_
 refine Zbq (Jg (λh0=> ?_) (λh0=> ?_))
 ·have J:img≠[]:=λe=>by rw [e] at h0;exact h0 rfl
  refine U.len ?_
  refine Zb x2 (show (Ju c)[0+1]? =some (.int .i64 c.lines) from rfl) (Zbq (Jg (λh1=> ?_) (λh1=> ?_)))
  ·exact Ja (Sub.refl _) (aa (λa=>a.2.elim (λe=>J e) (λe=>h1 e)) _ _ V)
  have hl:(img.length:Int)=c.lines:=by simpa using h1
  refine Zb x2 (show (Ju c)[0+1]? =some (.int .i64 c.lines) from rfl) (Zb x2 (show (Ju c)[0+2]? =some (.int .i64 c.vol) from rfl) ?_)
  refine dev (.inr hl) _ (λle lm E j n3 I Q O=> ?_)
  simp only [Xw,XC,QC]
  refine Zbq (Jg (λh=>absurd h (by decide)) (λ_=> ?_))
  have Y:Sl Zq 8 j v img:=(U.mono I).mono (JZ _ _)
  refine Y.len (Qf9 (Jg (λh2=> ?_) (λh2=> ?_)))
  ·refine Qed Q O Y (by simp;omega) J (λg4 n4 k4 L4 d4=> ?_)
   refine Xd5 L4 d4 ⟨by show 1≤c.vol.toNat;omega,by show c.vol.toNat<img.length;omega,by show img.length≤64;omega⟩ (λg5 n5 k5 L5 d5=> ?_)
   exact ad J hl _ E g5 n5 le lm rfl rfl (I.trans ((k4.trans k5).unc)) L5 d5
  ·exact absurd (List.length_pos_iff.2 J) (by omega)
 ·have Z:img=[]:=List.eq_nil_of_length_eq_zero (by omega)
  refine Zb x2 (show (Ju c)[0+1]? =some (.int .i64 c.lines) from rfl) (Zb x2 (show (Ju c)[0+2]? =some (.int .i64 c.vol) from rfl) ?_)
  refine dev (.inl Z) _ (λle lm E j n3 I Q O=> ?_)
  simp only [Xw,XC,QC]
  refine Zbq (Jg (λh=>absurd h (by decide)) (λ_=> ?_))
  have Y:Sl Zq 8 j v img:=(U.mono I).mono (JZ _ _)
  refine Y.len (Qf9 (Jg (λh2=> ?_) (λh2=> ?_)))
  ·rw [Z] at h2;simp at h2
  ·exact ac Z _ E j n3 le lm rfl rfl I Q O
end
end
section
structure Gd (A:Arr) (k:Nat):Prop where
 ok:A.ok
 wf:A.wf
 used:A.used≤k
theorem Gd.le {A:Arr} {k k':Nat} (h:Gd A k) (j:k≤k'):Gd A k':=⟨h.ok,h.wf,by have:=h.used;omega⟩
theorem Gd.set {A:Arr} {k:Nat} (h:Gd A k) (j:k<100000) (line state:Int) (d:Ln):Gd (A.set line state d).2 (k+1):=
 ⟨Arr.set_ok h.ok (by have:=h.used;omega) _ _ _,Arr.set_wf h.ok h.wf _ _ _,by have:=h.used;have:=(Arr.set_used A line state d).2;omega⟩
theorem Gd.touch {A:Arr} {k:Nat} (h:Gd A k) (j:k<100000) (line:Int):Gd (A.touch line) (k+1):=
 ⟨Arr.touch_ok h.ok (by have:=h.used;omega) _,Arr.touch_wf h.ok h.wf _,by have:=h.used;have:=(Arr.touch_used A line).2;omega⟩
theorem Gd.drop {A:Arr} {k:Nat} (h:Gd A k) (line:Int):Gd (A.drop line) k:=
 ⟨Arr.drop_ok h.ok _,Arr.drop_wf h.wf _,by rw [Arr.drop_used];exact h.used⟩
theorem Gd.out {A:Arr} {k:Nat} (h:Gd A k) (j:k<100000) (s:St):Gd (A.out s).2 (k+1):=h.set j _ _ _
theorem Gd.ask {A:Arr} {k:Nat} (h:Gd A k) (j:k<100000) (line state kind:Int) (d:Ln):Gd (A.ask line state kind d).2 (k+1):=by
 unfold Arr.ask
 split
 ·exact h.le (by omega)
 ·split
  ·split
   ·exact h.le (by omega)
   ·exact h.out j _
  ·exact h.set j _ _ _
theorem Gd.load {A:Arr} {k:Nat} (h:Gd A k) (j:k<100000) (line word:Int):Gd (A.load line word).2 (k+1):=by
 unfold Arr.load
 split
 ·exact h.le (by omega)
 ·split
  ·exact h.touch j _
  ·exact h.ask j _ _ _ _
theorem Gd.reach {A:Arr} {k:Nat} (h:Gd A k) (j:k<100000) (line:Int):Gd (A.reach line).2 (k+1):=by
 unfold Arr.reach
 split
 ·exact h.le (by omega)
 ·split
  ·exact h.ask j _ _ _ _
  ·exact h.ask j _ _ _ _
theorem Gd.store {A:Arr} {k:Nat} (h:Gd A k) (j:k<100000) (line word v:Int):Gd (A.store line word v).2 (k+1):=by
 unfold Arr.store
 split
 ·exact h.le (by omega)
 ·split
  ·exact h.reach j _
  ·exact h.set j _ _ _
theorem Gd.hear {A:Arr} {k:Nat} (h:Gd A k) (j:k<100000) (m:Ms):Gd (A.hear m).2.1 (k+1):=by
 unfold Arr.hear
 split
 ·exact h.le (by omega)
 ·split
  ·exact h.le (by omega)
  ·split
   ·exact h.le (by omega)
   ·split
    ·exact (h.drop _).le (by omega)
    ·exact h.set j _ _ _
theorem Gd.evict {A:Arr} {k:Nat} (h:Gd A k) (j:k<100000) (line:Int):Gd (A.evict line).2.1 (k+1):=by
 unfold Arr.evict
 split
 ·exact h.le (by omega)
 ·split
  ·exact h.le (by omega)
  ·exact h.out j _
theorem gd0 {s w:Nat} (hs:s=1∨s=2∨s=4∨s=8) (j:1≤w) (E:w≤8):Gd (Xfx s w) 0:=⟨JhE hs j E,JhI s w,Int.le_refl _⟩
def Lin (A:Arr) (L:Int):Prop:= ∀s∈A.l,0≤s.line∧s.line<L
section
variable {A:Arr} {L:Int}
theorem Lin.put {line:Int} {k:Nat} {t:St} (h:Lin A L) (j:0≤t.line∧t.line<L):Lin (A.put line k t) L:=by
 intro s hs
 rcases List.mem_or_eq_of_mem_set (show s∈A.l.set (A.from line+k) t from hs) with hs|rfl
 ·exact h s hs
 ·exact j
theorem Lin.slotAt (h:Lin A L) (j:0<L) (line:Int) (k:Nat):0≤(A.slotAt line k).line∧(A.slotAt line k).line<L:=by
 unfold Arr.slotAt
 rw [List.getD_eq_getElem?_getD]
 cases e:A.l[A.from line+k]? with
 | none=>exact ⟨Int.le_refl 0,j⟩
 | some s=>exact h s (List.mem_of_getElem? e)
theorem Lin.slot (h:Lin A L) (j:0<L) (line:Int):0≤(A.slot line).line∧(A.slot line).line<L:=by
 unfold Arr.slot Arr.find
 split
 ·exact ⟨Int.le_refl 0,j⟩
 ·exact h.slotAt j _ _
theorem Lin.set (h:Lin A L) {line:Int} (j:0≤line∧line<L) (state:Int) (d:Ln):Lin (A.set line state d).2 L:=by
 unfold Arr.set
 split
 ·exact h
 ·split
  ·exact h
  ·exact Lin.put (A:=A.tick) h j
theorem Lin.touch (h:Lin A L) (j:0<L) (line:Int):Lin (A.touch line) L:=by
 unfold Arr.touch
 split
 ·exact h
 ·exact Lin.put (A:=A.tick) h (h.slotAt j _ _)
theorem Lin.drop (h:Lin A L) (j:0<L) (line:Int):Lin (A.drop line) L:=by
 unfold Arr.drop
 split
 ·exact h
 ·exact Lin.put h ⟨Int.le_refl 0,j⟩
def MsL (L:Int) (l:List Ms):Prop:= ∀m∈l,0≤m.line∧m.line<L
theorem Lin.out (h:Lin A L) {s:St} (hs:0≤s.line∧s.line<L):MsL L (A.out s).1∧Lin (A.out s).2 L:=by
 refine ⟨λm hm=> ?_,h.set hs _ _⟩
 rcases List.mem_singleton.1 (show m∈[XhO s] from hm) with rfl
 exact hs
theorem MsL.nil:MsL L []:=λ_ h=>nomatch h
theorem Lin.ask (h:Lin A L) (E:0<L) {line:Int} (j:0≤line∧line<L) (state kind:Int) (d:Ln):MsL L (A.ask line state kind d).1∧Lin (A.ask line state kind d).2 L:=by
 unfold Arr.ask
 split
 ·exact ⟨MsL.nil,h⟩
 ·split
  ·split
   ·exact ⟨MsL.nil,h⟩
   ·exact h.out (h.slot E _)
  ·refine ⟨λm hm=> ?_,h.set j _ _⟩
   rcases List.mem_singleton.1 hm with rfl
   exact j
theorem Lin.load (h:Lin A L) (j:0<L) {line:Int} (E:0≤line∧line<L) (word:Int):MsL L (A.load line word).1∧Lin (A.load line word).2 L:=by
 unfold Arr.load
 split
 ·exact ⟨MsL.nil,h⟩
 ·split
  ·exact ⟨MsL.nil,h.touch j _⟩
  ·exact h.ask j E _ _ _
theorem Lin.reach (h:Lin A L) (E:0<L) {line:Int} (j:0≤line∧line<L):MsL L (A.reach line).1∧Lin (A.reach line).2 L:=by
 unfold Arr.reach
 split
 ·exact ⟨MsL.nil,h⟩
 ·split
  ·exact h.ask E j _ _ _
  ·exact h.ask E j _ _ _
theorem Lin.store (h:Lin A L) (E:0<L) {line:Int} (j:0≤line∧line<L) (word v:Int):MsL L (A.store line word v).1∧Lin (A.store line word v).2 L:=by
 unfold Arr.store
 split
 ·exact ⟨MsL.nil,h⟩
 ·split
  ·exact h.reach E j
  ·exact ⟨MsL.nil,h.set j _ _⟩
theorem Jfo {m:Ms} (hm:0≤m.line∧m.line<L) (s:St) (next:Int):MsL L (Je1 m s next):=by
 intro x hx
 unfold Je1 at hx
 split at hx
 ·rcases List.mem_singleton.1 hx with rfl;exact hm
 ·split at hx
  ·rcases List.mem_singleton.1 hx with rfl;exact hm
  ·cases hx
theorem Lin.hear (h:Lin A L) (j:0<L) {m:Ms} (hm:0≤m.line∧m.line<L):MsL L (A.hear m).1∧Lin (A.hear m).2.1 L:=by
 unfold Arr.hear
 split
 ·exact ⟨MsL.nil,h⟩
 ·split
  ·exact ⟨MsL.nil,h⟩
  ·split
   ·exact ⟨MsL.nil,h⟩
   ·split
    ·exact ⟨Jfo hm _ _,h.drop j _⟩
    ·exact ⟨Jfo hm _ _,h.set hm _ _⟩
theorem Lin.evict (h:Lin A L) (j:0<L) (line:Int):MsL L (A.evict line).1∧Lin (A.evict line).2.1 L:=by
 unfold Arr.evict
 split
 ·exact ⟨MsL.nil,h⟩
 ·split
  ·exact ⟨MsL.nil,h⟩
  ·exact h.out (h.slot j _)
theorem Jiq {s w:Nat} (E:0<L):Lin (Xfx s w) L:=by
 intro t j
 rcases List.mem_replicate.1 (show t∈List.replicate (s*w) XaR from j) with ⟨_,rfl⟩
 exact ⟨Int.le_refl 0,E⟩
end
end
section
structure Nd.wf (L:Int) (k:Nat) (N:Nd):Prop where
 gd:Gd N.A k
 lin:Lin N.A L
 up:N.up.length≤1000∧MsL L N.up
 ans:N.ans.length≤1000∧MsL L N.ans
 dn:N.dn.length≤1000∧MsL L N.dn
structure Sys.wf (S:Sys) (k:Nat):Prop where
 c:S.c.good
 nodes:S.nodes.length=S.c.cores.toNat
 dir:S.dir.length=S.c.lines.toNat
 vol:S.D.vol=S.c.vol.toNat
 mem:S.D.mem.length=S.c.lines.toNat
 q:S.q.length≤16
 inr:inR S.q S.D.mem.length
 nd: ∀(i:Nat) N,S.nodes[i]? =some N→N.wf S.c.lines k
theorem Nd.wf.le {L:Int} {k k':Nat} {N:Nd} (h:N.wf L k) (j:k≤k'):N.wf L k':=⟨h.gd.le j,h.lin,h.up,h.ans,h.dn⟩
section
variable {S:Sys} {k:Nat}
theorem Sys.wf.le {k':Nat} (h:S.wf k) (j:k≤k'):S.wf k':=⟨h.c,h.nodes,h.dir,h.vol,h.mem,h.q,h.inr,λi N e=>(h.nd i N e).le j⟩
theorem Sys.wf.shp (h:S.wf k):S.shp:=by
 have j:=h.c.lines
 have E:=h.c.vol
 exact ⟨by rw [h.dir,h.mem],by rw [h.mem];omega,by rw [h.vol,h.mem];omega,by have:=h.q;omega⟩
theorem Sys.wf.fit (h:S.wf k) (j:k<100000):S.fit:=λi N e=>⟨(h.nd i N e).gd.ok,(h.nd i N e).gd.wf,by have:=(h.nd i N e).gd.used;omega⟩
theorem Sys.wf.line (h:S.wf k) (x:Int):S.line x=true↔0≤x∧x<S.c.lines:=by
 unfold Sys.line
 rw [decide_eq_true_eq,h.dir]
 have:=h.c.lines
 omega
theorem Sys.wf.pos (h:S.wf k):0<S.c.lines:=by have:=h.c.lines;omega
theorem Sys.wf.setN (h:S.wf k) {i:Nat} {N:Nd} (I:N.wf S.c.lines (k+1)):(S.setN i N).wf (k+1):=by
 refine ⟨h.c,by simp only [Sys.setN,List.length_set];exact h.nodes,h.dir,h.vol,h.mem,h.q,h.inr,λj M e=> ?_⟩
 simp only [Sys.setN] at e
 by_cases hj:i=j
 ·subst hj
  have E:=Xg e
  rw [List.length_set] at E
  rw [List.getElem?_set_self E] at e
  cases e;exact I
 ·rw [List.getElem?_set_ne hj] at e
  exact (h.nd j M e).le (by omega)
theorem Sys.wf.setN0 (h:S.wf k) {i:Nat} {N:Nd} (I:N.wf S.c.lines k):(S.setN i N).wf k:=by
 refine ⟨h.c,by simp only [Sys.setN,List.length_set];exact h.nodes,h.dir,h.vol,h.mem,h.q,h.inr,λj M e=> ?_⟩
 simp only [Sys.setN] at e
 by_cases hj:i=j
 ·subst hj
  have E:=Xg e
  rw [List.length_set] at E
  rw [List.getElem?_set_self E] at e
  cases e;exact I
 ·rw [List.getElem?_set_ne hj] at e
  exact h.nd j M e
theorem Sys.wf.setE (h:S.wf k) (i:Nat) (e:Ent):(S.setE i e).wf k:=⟨h.c,h.nodes,by simp only [Sys.setE,List.length_set];exact h.dir,h.vol,h.mem,h.q,h.inr,h.nd⟩
theorem Jei {L:Int} {q:List Ms} {m:Ms} (h:q.length≤1000∧MsL L q) (hm:0≤m.line∧m.line<L):(Qa3 q m).1.length≤1000∧MsL L (Qa3 q m).1:=by
 unfold Qa3
 split
 ·exact h
 ·split
  ·exact h
  ·refine ⟨by simp;omega,λx hx=> ?_⟩
   rcases List.mem_append.1 hx with hx|hx
   ·exact h.2 x hx
   ·rcases List.mem_singleton.1 hx with rfl;exact hm
theorem Xc2 {L:Int}: ∀{l q:List Ms},q.length≤1000∧MsL L q→MsL L l→(QY q l).length≤1000∧MsL L (QY q l)
 | [],q,h,_=>h
 | m::l,q,h,j=>by
  have E:=Jei h (j m (List.mem_cons_self ..))
  exact Xc2 (l:=l) E (λx hx=>j x (List.mem_cons_of_mem _ hx))
theorem Sys.wf.ask (h:S.wf k) {i:Nat} {N:Nd} (E:S.nodes[i]? =some N) {A':Arr} {ms:List Ms} (I:Gd A' (k+1)) (hm:MsL S.c.lines ms∧Lin A' S.c.lines):(S.setN i { N with A:=A',up:=QY N.up ms }).wf (k+1):=by
 have j:=h.nd i N E
 exact h.setN ⟨I,hm.2,Xc2 j.up hm.1,j.ans,j.dn⟩
theorem Sys.wf.load (h:S.wf k) (J:k<100000) (core line word:Int):(S.load core line word).1.wf (k+1):=by
 unfold Sys.load
 split
 ·exact h.le (by omega)
 ·rename_i i N e
  obtain ⟨_,E⟩:=Sys.at_some e
  have I:=h.nd i N E
  split
  ·exact h.le (by omega)
  ·rename_i O
   have j:=(h.line line).1 (by simpa using O)
   exact h.ask E (I.gd.load J _ _) (I.lin.load h.pos j _)
theorem Sys.wf.store (h:S.wf k) (J:k<100000) (core line word v:Int):(S.store core line word v).1.wf (k+1):=by
 unfold Sys.store
 split
 ·exact h.le (by omega)
 ·rename_i i N e
  obtain ⟨_,E⟩:=Sys.at_some e
  have I:=h.nd i N E
  split
  ·exact h.le (by omega)
  ·rename_i O
   have j:=(h.line line).1 (by simpa using O)
   exact h.ask E (I.gd.store J _ _ _) (I.lin.store h.pos j _ _)
theorem Sys.wf.reach (h:S.wf k) (J:k<100000) (core line:Int):(S.reach core line).1.wf (k+1):=by
 unfold Sys.reach
 split
 ·exact h.le (by omega)
 ·rename_i i N e
  obtain ⟨_,E⟩:=Sys.at_some e
  have I:=h.nd i N E
  split
  ·exact h.le (by omega)
  ·rename_i O
   have j:=(h.line line).1 (by simpa using O)
   exact h.ask E (I.gd.reach J _) (I.lin.reach h.pos j)
theorem Sys.wf.evict (h:S.wf k) (I:k<100000) (core line:Int):(S.evict core line).1.wf (k+1):=by
 unfold Sys.evict
 split
 ·exact h.le (by omega)
 ·rename_i i N e
  obtain ⟨_,j⟩:=Sys.at_some e
  have E:=h.nd i N j
  split
  ·exact h.le (by omega)
  ·exact h.ask j (E.gd.evict I _) (E.lin.evict h.pos _)
theorem Sys.wf.flush (h:S.wf k) (core line kind:Int):(S.flush core line kind).1.wf k:=by
 unfold Sys.flush
 split
 ·exact h
 ·rename_i i N e
  obtain ⟨_,I⟩:=Sys.at_some e
  have j:=h.nd i N I
  split
  ·exact h
  ·split
   ·exact h
   ·rename_i J _
    have E:=(h.line line).1 (by simpa using J)
    exact h.setN0 ⟨j.gd,j.lin,Jei j.up E,j.ans,j.dn⟩
theorem Sys.wf.hear (h:S.wf k) (J:k<100000) (core:Int):(S.hear core).1.wf (k+1):=by
 unfold Sys.hear
 split
 ·exact h.le (by omega)
 ·rename_i i N e
  obtain ⟨_,O⟩:=Sys.at_some e
  have j:=h.nd i N O
  split
  ·exact h.le (by omega)
  ·rename_i m r hq
   have hm:0≤m.line∧m.line<S.c.lines:=j.dn.2 m (by rw [hq];simp)
   have I:r.length≤1000∧MsL S.c.lines r:=⟨by have:=j.dn.1;rw [hq] at this;simp at this;omega,λx hx=>j.dn.2 x (by rw [hq];exact List.mem_cons_of_mem _ hx)⟩
   have E:=j.lin.hear h.pos hm
   exact h.setN ⟨j.gd.hear J m,E.2,j.up,Xc2 j.ans E.1,I⟩
theorem Sys.wf.send1 (h:S.wf k) {line:Int} (I:0≤line∧line<S.c.lines) (x:Snd):(S.send1 line x).wf k:=by
 unfold Sys.send1
 split
 ·exact h
 ·rename_i i N e
  obtain ⟨_,E⟩:=Sys.at_some e
  have j:=h.nd i N E
  exact h.setN0 ⟨j.gd,j.lin,j.up,j.ans,Jei j.dn I⟩
theorem Jgg (S:Sys) (line:Int) (x:Snd):(S.send1 line x).c=S.c:=by unfold Sys.send1;split<;>rfl
theorem Sys.wf.sends {line:Int}: ∀{l:List Snd} {S:Sys},S.wf k→0≤line∧line<S.c.lines→(S.sends line l).wf k
 | [],S,h,_=>h
 | x::l,S,h,j=>Sys.wf.sends (l:=l) (h.send1 j x) (by rw [Jgg];exact j)
theorem Sys.wf.write (h:S.wf k) {i:Nat} {e:Ent} (E:S.dir[i]? =some e):(S.write i e).1.wf k:=by
 unfold Sys.write
 split
 ·exact h
 ·have I:=Xg E
  have hq:=h.c.queue
  refine ⟨h.c,h.nodes,h.dir,h.vol,h.mem,?_,?_,h.nd⟩
  ·show (Zb3 _ _ _ _ _).1.length≤16
   unfold Zb3
   split
   ·exact h.q
   ·split
    ·exact h.q
    ·simp;omega
  ·intro x hx
   have j:x∈(Zb3 S.q S.D S.c.queue (i:Nat) e.data).1:=hx
   unfold Zb3 at j
   split at j
   ·exact h.inr x j
   ·split at j
    ·exact h.inr x j
    ·rcases List.mem_append.1 j with j|j
     ·exact h.inr x j
     ·rcases List.mem_singleton.1 j with rfl
      show 0≤((i:Nat):Int)∧((i:Nat):Int)<S.D.mem.length
      rw [h.mem,←h.dir];omega
theorem Zc3 (S:Sys) (i:Nat) (e:Ent):(S.write i e).1.c=S.c:=by unfold Sys.write;split<;>rfl
theorem Sys.wf.push (h:S.wf k) (line:Int):(S.push line).1.wf k:=by
 unfold Sys.push
 split
 ·exact h
 ·rename_i i e he
  obtain ⟨I,j⟩:=Sys.ent_some he
  have E:=Xg j
  split
  ·exact h
  ·split
   ·exact h.write j
   ·split
    ·exact h.write j
    ·refine Sys.wf.sends ((h.write j).setE _ _) ?_
     show 0≤line∧line<(S.write i e).1.c.lines
     rw [Zc3,I]
     have:=h.dir
     omega
theorem Sys.wf.drop (h:S.wf k) (line:Int):(S.drop line).1.wf k:=by
 unfold Sys.drop
 split
 ·exact h
 ·rename_i i e he
  obtain ⟨E,j⟩:=Sys.ent_some he
  split
  ·exact h
  ·split
   ·exact h.write j
   ·exact (h.write j).setE _ _
theorem Sys.wf.drain (h:S.wf k) (line:Int):(S.drain line).1.wf k:=by
 unfold Sys.drain
 split
 ·exact h
 ·have hp:=Dev.put_len S.D
  unfold Zbi
  split
  ·exact h
  ·rename_i j J
   obtain ⟨E,I⟩:=hp line (S.q.getD j J5).data
   refine ⟨h.c,h.nodes,h.dir,I.trans h.vol,E.trans h.mem,?_,?_,h.nd⟩
   ·have:=List.length_eraseIdx_le S.q j;have:=h.q
    show (S.q.eraseIdx j).length≤16
    omega
   ·intro x hx
    show 0≤x.line∧x.line<((S.D.put line (S.q.getD j J5).data).mem.length:Nat)
    rw [E]
    exact h.inr x (List.mem_of_mem_eraseIdx hx)
theorem Sys.wf.here (h:S.wf k) (i:Nat) (e:Ent):(S.here i e).wf k:=by
 unfold Sys.here
 split
 ·exact h
 ·exact h.setE _ _
theorem Zfx (S:Sys) (i:Nat) (e:Ent):(S.here i e).c=S.c:=by unfold Sys.here;split<;>rfl
theorem Sys.wf.up (h:S.wf k) (core:Int):(S.up core).1.wf k:=by
 unfold Sys.up
 split
 ·exact h
 ·rename_i i N e
  obtain ⟨_,I⟩:=Sys.at_some e
  have j:=h.nd i N I
  split
  ·exact h
  ·rename_i m r hq
   have hm:0≤m.line∧m.line<S.c.lines:=j.up.2 m (by rw [hq];simp)
   have E:r.length≤1000∧MsL S.c.lines r:=⟨by have:=j.up.1;rw [hq] at this;simp at this;omega,λx hx=>j.up.2 x (by rw [hq];exact List.mem_cons_of_mem _ hx)⟩
   split
   ·exact h
   ·split
    ·exact h
    ·split
     ·exact h.here _ _
     ·refine Sys.wf.sends (Sys.wf.setE (Sys.wf.setN0 (h.here _ _) ?_) _ _) ?_
      ·rw [Zfx];exact ⟨j.gd,j.lin,E,j.ans,j.dn⟩
      ·show 0≤m.line∧m.line<(S.here _ _).c.lines
       rw [Zfx];exact hm
theorem Sys.wf.answer (h:S.wf k) (core:Int):(S.answer core).1.wf k:=by
 unfold Sys.answer
 split
 ·exact h
 ·rename_i i N e
  obtain ⟨_,J⟩:=Sys.at_some e
  have j:=h.nd i N J
  split
  ·exact h
  ·rename_i m r hq
   have hm:0≤m.line∧m.line<S.c.lines:=j.ans.2 m (by rw [hq];simp)
   have I:r.length≤1000∧MsL S.c.lines r:=⟨by have:=j.ans.1;rw [hq] at this;simp at this;omega,λx hx=>j.ans.2 x (by rw [hq];exact List.mem_cons_of_mem _ hx)⟩
   have E:(S.setN i { N with ans:=r }).wf k:=h.setN0 ⟨j.gd,j.lin,j.up,I,j.dn⟩
   split
   ·exact h
   ·split
    ·exact E
    ·exact Sys.wf.sends (E.setE _ _) hm
theorem puts_len (es:List En) (D:Dev):((D.puts es).mem.length=D.mem.length)∧(D.puts es).vol=D.vol:=Dev.puts_len es D
theorem Jfn {D:Dev} (h:D.vol≤D.mem.length):D.fail.mem.length=D.mem.length:=by
 unfold Dev.fail;simp;omega
theorem QhZ {c:Cfg} (hc:c.good) (k:Nat):(nd0 c).wf c.lines k:=by
 have j:0<c.lines:=by have:=hc.lines;omega
 have hs:=hc.sets
 have E:=hc.ways
 refine ⟨(gd0 (by omega) (by omega) (by omega)).le (by omega),Jiq j,⟨Nat.zero_le 1000,MsL.nil⟩,⟨Nat.zero_le 1000,MsL.nil⟩,⟨Nat.zero_le 1000,MsL.nil⟩⟩
theorem Qfq {c:Cfg} (hc:c.good) {D:Dev} (E:D.vol=c.vol.toNat) (hm:D.mem.length=c.lines.toNat) (k:Nat):Sys.wf ⟨c,List.replicate c.cores.toNat (nd0 c),List.replicate c.lines.toNat ZK,[],D⟩ k:=by
 refine ⟨hc,by simp,by simp,E,hm,by simp,(λe he=>nomatch he),λi N j=> ?_⟩
 have:N=nd0 c:=by
  obtain ⟨_,h⟩:=List.getElem?_eq_some_iff.1 j
  rw [List.getElem_replicate] at h;exact h.symm
 subst this
 exact QhZ hc k
theorem Sys.wf.fail (h:S.wf k) (k':Nat):S.fail.wf k':=by
 obtain ⟨E,j⟩:=puts_len S.q S.D
 have I:=h.c.lines
 have J:=h.c.vol
 refine Qfq h.c ?_ ?_ k'
 ·show (S.D.puts S.q).vol=_;rw [j];exact h.vol
 ·rw [Jfn (by rw [E,j,h.vol,h.mem];omega),E];exact h.mem
theorem XeE {c:Cfg} (hc:c.good) {img:List Ln} (E:img=[]∨(img.length:Int)=c.lines) (k:Nat):(JbV c img).wf k:=by
 have I:=hc.lines
 have J:=hc.vol
 refine Qfq hc ?_ ?_ k
 ·unfold QhO;split<;>rfl
 ·unfold QhO
  split
  ·simp
  ·rename_i j
   rw [Jfn (by show c.vol.toNat≤img.length;rcases E with e|e;exact absurd e j;omega)]
   show img.length=_
   rcases E with e|e
   ·exact absurd e j
   ·omega
end
end
section
variable {g:G} {n:Nat}
structure Stp where
 kind:Int
 core:Int
 line:Int
 word:Int
 val:Int
def Jh6 (v:Int):Int:=IntKind.i64.wrap (4+IntKind.i64.wrap (v.tmod 2))
def Sys.do (S:Sys) (x:Stp):Sys×Int×Bool×Ms×Int:=
 if x.kind=0 then ((S.load x.core x.line x.word).1,(S.load x.core x.line x.word).2.1,(S.load x.core x.line x.word).2.2,Xm,0) else
 if x.kind=1 then ((S.store x.core x.line x.word x.val).1,0,(S.store x.core x.line x.word x.val).2,Xm,0) else
 if x.kind=2 then ((S.reach x.core x.line).1,0,(S.reach x.core x.line).2,Xm,0) else
 if x.kind=3 then ((S.flush x.core x.line (Jh6 x.val)).1,0,false,Xm,(S.flush x.core x.line (Jh6 x.val)).2) else
 if x.kind=4 then ((S.up x.core).1,0,false,Xm,(S.up x.core).2) else
 if x.kind=5 then ((S.answer x.core).1,0,false,Xm,(S.answer x.core).2) else
 if x.kind=6 then ((S.hear x.core).1,0,false,(S.hear x.core).2.1,(S.hear x.core).2.2) else
 if x.kind=7 then ((S.push x.line).1,0,false,Xm,(S.push x.line).2) else
 if x.kind=8 then ((S.evict x.core x.line).1,0,false,Xm,(S.evict x.core x.line).2) else
 if x.kind=9 then ((S.drop x.line).1,0,false,Xm,(S.drop x.line).2) else
 if x.kind=10 then ((S.drain x.line).1,0,false,Xm,(S.drain x.line).2) else
 if x.kind=11 then (S.fail,0,false,Xm,0) else (S,0,false,Xm,0)
theorem ZbZ {c:Prop} [Decidable c] {k:Nat} {p q:Sys×Int×Bool×Ms×Int} (j:p.1.wf k) (E:q.1.wf k):(if c then p else q).1.wf k:=by
 by_cases h:c
 ·rw [if_pos h];exact j
 ·rw [if_neg h];exact E
theorem Sys.wf.do {S:Sys} {k:Nat} (h:S.wf k) (j:k<100000) (x:Stp):(S.do x).1.wf (k+1):=by
 unfold Sys.do
 refine ZbZ (h.load j _ _ _) (ZbZ (h.store j _ _ _ _) (ZbZ (h.reach j _ _) (ZbZ ((h.flush _ _ _).le (by omega)) (ZbZ ((h.up _).le (by omega)) (ZbZ ((h.answer _).le (by omega)) (ZbZ (h.hear j _) (ZbZ ((h.push _).le (by omega)) (ZbZ (h.evict j _ _) (ZbZ ((h.drop _).le (by omega)) (ZbZ ((h.drain _).le (by omega)) (ZbZ (h.fail _) (h.le (by omega)))))))))))))
section
variable {o:Col Cl} {l:Nat} {W:QaI} {S:Sys} {K:Cont}
end
end
section
variable {g:G} {n:Nat}
def hs (op:Int):ByteArray:=
 if op=1 then ⟨#[65,73]⟩ else if (2≤op∧op≤7)∨op=10∨op=11 then ⟨#[65,66,67]⟩ else if op=8∨op=9∨(18≤op∧op≤20) then ⟨#[65,66,73]⟩
 else if 12≤op∧op≤14 then ⟨#[66,73]⟩ else if op=17 then ⟨#[73]⟩ else if op=21 then ⟨#[65]⟩ else ⟨#[]⟩
def Qbq (op:Int) (c:UInt8):Bool:=(hs op).data.toList.any (· ==c)
theorem Jh4 {op:Int} (j:0≤op) (E:op≤22):op=0∨op=1∨op=2∨op=3∨op=4∨op=5∨op=6∨op=7∨op=8∨op=9∨op=10∨op=11∨op=12∨op=13∨op=14∨op=15∨op=16∨op=17∨op=18∨op=19∨op=20∨op=21∨op=22:=by omega
set_option maxRecDepth 100000 in
theorem XhH:Jy Tryz.prog (HT TT) 1000 100 Qn [.int .i64 0] .nil 0 (λj _ _=>Zaz j (.string (hs 0)))=true:=by kernel_rfl
set_option maxRecDepth 100000 in
theorem Zhx:Jy Tryz.prog (HT TT) 1000 100 Qn [.int .i64 1] .nil 0 (λj _ _=>Zaz j (.string (hs 1)))=true:=by kernel_rfl
set_option maxRecDepth 100000 in
theorem ZhN:Jy Tryz.prog (HT TT) 1000 100 Qn [.int .i64 2] .nil 0 (λj _ _=>Zaz j (.string (hs 2)))=true:=by kernel_rfl
set_option maxRecDepth 100000 in
theorem ZhD:Jy Tryz.prog (HT TT) 1000 100 Qn [.int .i64 3] .nil 0 (λj _ _=>Zaz j (.string (hs 3)))=true:=by kernel_rfl
set_option maxRecDepth 100000 in
theorem Xhy:Jy Tryz.prog (HT TT) 1000 100 Qn [.int .i64 4] .nil 0 (λj _ _=>Zaz j (.string (hs 4)))=true:=by kernel_rfl
set_option maxRecDepth 100000 in
theorem Xht:Jy Tryz.prog (HT TT) 1000 100 Qn [.int .i64 5] .nil 0 (λj _ _=>Zaz j (.string (hs 5)))=true:=by kernel_rfl
set_option maxRecDepth 100000 in
theorem Qht:Jy Tryz.prog (HT TT) 1000 100 Qn [.int .i64 6] .nil 0 (λj _ _=>Zaz j (.string (hs 6)))=true:=by kernel_rfl
set_option maxRecDepth 100000 in
theorem Xhx:Jy Tryz.prog (HT TT) 1000 100 Qn [.int .i64 7] .nil 0 (λj _ _=>Zaz j (.string (hs 7)))=true:=by kernel_rfl
set_option maxRecDepth 100000 in
theorem Zhs:Jy Tryz.prog (HT TT) 1000 100 Qn [.int .i64 8] .nil 0 (λj _ _=>Zaz j (.string (hs 8)))=true:=by kernel_rfl
set_option maxRecDepth 100000 in
theorem JhG:Jy Tryz.prog (HT TT) 1000 100 Qn [.int .i64 9] .nil 0 (λj _ _=>Zaz j (.string (hs 9)))=true:=by kernel_rfl
set_option maxRecDepth 100000 in
theorem Qg0:Jy Tryz.prog (HT TT) 1000 100 Qn [.int .i64 10] .nil 0 (λj _ _=>Zaz j (.string (hs 10)))=true:=by kernel_rfl
set_option maxRecDepth 100000 in
theorem ZgV:Jy Tryz.prog (HT TT) 1000 100 Qn [.int .i64 11] .nil 0 (λj _ _=>Zaz j (.string (hs 11)))=true:=by kernel_rfl
set_option maxRecDepth 100000 in
theorem Jha:Jy Tryz.prog (HT TT) 1000 100 Qn [.int .i64 12] .nil 0 (λj _ _=>Zaz j (.string (hs 12)))=true:=by kernel_rfl
set_option maxRecDepth 100000 in
theorem ZgR:Jy Tryz.prog (HT TT) 1000 100 Qn [.int .i64 13] .nil 0 (λj _ _=>Zaz j (.string (hs 13)))=true:=by kernel_rfl
set_option maxRecDepth 100000 in
theorem QgR:Jy Tryz.prog (HT TT) 1000 100 Qn [.int .i64 14] .nil 0 (λj _ _=>Zaz j (.string (hs 14)))=true:=by kernel_rfl
set_option maxRecDepth 100000 in
theorem QgU:Jy Tryz.prog (HT TT) 1000 100 Qn [.int .i64 15] .nil 0 (λj _ _=>Zaz j (.string (hs 15)))=true:=by kernel_rfl
set_option maxRecDepth 100000 in
theorem Qg5:Jy Tryz.prog (HT TT) 1000 100 Qn [.int .i64 16] .nil 0 (λj _ _=>Zaz j (.string (hs 16)))=true:=by kernel_rfl
set_option maxRecDepth 100000 in
theorem Zhb:Jy Tryz.prog (HT TT) 1000 100 Qn [.int .i64 17] .nil 0 (λj _ _=>Zaz j (.string (hs 17)))=true:=by kernel_rfl
set_option maxRecDepth 100000 in
theorem JgS:Jy Tryz.prog (HT TT) 1000 100 Qn [.int .i64 18] .nil 0 (λj _ _=>Zaz j (.string (hs 18)))=true:=by kernel_rfl
set_option maxRecDepth 100000 in
theorem Zg8:Jy Tryz.prog (HT TT) 1000 100 Qn [.int .i64 19] .nil 0 (λj _ _=>Zaz j (.string (hs 19)))=true:=by kernel_rfl
set_option maxRecDepth 100000 in
theorem Jhe:Jy Tryz.prog (HT TT) 1000 100 Qn [.int .i64 20] .nil 0 (λj _ _=>Zaz j (.string (hs 20)))=true:=by kernel_rfl
set_option maxRecDepth 100000 in
theorem XgX:Jy Tryz.prog (HT TT) 1000 100 Qn [.int .i64 21] .nil 0 (λj _ _=>Zaz j (.string (hs 21)))=true:=by kernel_rfl
set_option maxRecDepth 100000 in
theorem Jhb:Jy Tryz.prog (HT TT) 1000 100 Qn [.int .i64 22] .nil 0 (λj _ _=>Zaz j (.string (hs 22)))=true:=by kernel_rfl
theorem Xgy {op:Int} (E:0≤op) (I:op≤22) {K:Cont} (J: ∀n',K (.string (hs op)) g n'):AC Qn [.int .i64 op] g n K:=by
 have e:Jy Tryz.prog (HT TT) 1000 100 Qn [.int .i64 op] .nil 0 (λj _ _=>Zaz j (.string (hs op)))=true:=by
  rcases Jh4 E I with rfl|rfl|rfl|rfl|rfl|rfl|rfl|rfl|rfl|rfl|rfl|rfl|rfl|rfl|rfl|rfl|rfl|rfl|rfl|rfl|rfl|rfl|rfl
  ·exact XhH
  ·exact Zhx
  ·exact ZhN
  ·exact ZhD
  ·exact Xhy
  ·exact Xht
  ·exact Qht
  ·exact Xhx
  ·exact Zhs
  ·exact JhG
  ·exact Qg0
  ·exact ZgV
  ·exact Jha
  ·exact ZgR
  ·exact QgR
  ·exact QgU
  ·exact Qg5
  ·exact Zhb
  ·exact JgS
  ·exact Zg8
  ·exact Jhe
  ·exact XgX
  ·exact Jhb
 exact QfX (.string (hs _)) 1000 100 (by rfl) (by rfl) e J
theorem hs7 (op:Int):hs op=⟨#[65,73]⟩∨hs op=⟨#[65,66,67]⟩∨hs op=⟨#[65,66,73]⟩∨hs op=⟨#[66,73]⟩∨hs op=⟨#[73]⟩∨hs op=⟨#[65]⟩∨hs op=⟨#[]⟩:=by
 unfold hs;repeat' split
 all_goals simp
set_option maxRecDepth 100000 in
theorem Jid {s:ByteArray} {c:UInt8} (hc:c=65∨c=66∨c=67∨c=73) (h:s=⟨#[65,73]⟩∨s=⟨#[65,66,67]⟩∨s=⟨#[65,66,73]⟩∨s=⟨#[66,73]⟩∨s=⟨#[73]⟩∨s=⟨#[65]⟩∨s=⟨#[]⟩) {K:Cont} (j: ∀n',K (.bool (s.data.toList.any (· ==c))) g n'):
  AC XI [.string s,.string ⟨#[c]⟩] g n K:=by
 rcases hc with rfl|rfl|rfl|rfl<;>rcases h with rfl|rfl|rfl|rfl|rfl|rfl|rfl<;>exact QfX (.bool _) 1000 100 (by kernel_rfl) (by kernel_rfl) (by kernel_rfl) j
theorem Zdo {op:Int} {c:UInt8} (hc:c=65∨c=66∨c=67∨c=73) {K:Cont} (j: ∀n',K (.bool (Qbq op c)) g n'):AC XI [.string (hs op),.string ⟨#[c]⟩] g n K:=Jid hc (hs7 op) j
set_option maxRecDepth 100000 in
theorem QaY {op:Int} (j:0≤op) (E:op≤22) {c:UInt8} (hc:c=65∨c=66∨c=67∨c=73) {K:Cont} (I: ∀n',K (.bool (Qbq op c)) g n'):AC Zu [.int .i64 op,.int .u8 c.toNat] g n K:=by
 rcases hc with rfl|rfl|rfl|rfl<;>rcases Jh4 j E with rfl|rfl|rfl|rfl|rfl|rfl|rfl|rfl|rfl|rfl|rfl|rfl|rfl|rfl|rfl|rfl|rfl|rfl|rfl|rfl|rfl|rfl|rfl<;>
  exact QfX (.bool (Qbq _ _)) 1000 100 (by kernel_rfl) (by kernel_rfl) (by kernel_rfl) I
end
section
variable {g:G} {n:Nat}
structure Ins where
 op:Int
 a:Int
 b:Int
 c:Int
 imm:Int
 deriving DecidableEq
def encI (i:Ins):List Value:=[.int .i64 i.op,.int .i64 i.a,.int .i64 i.b,.int .i64 i.c,.int .i64 i.imm]
theorem J8 (i:Ins):(encI i).length=5:=rfl
theorem XdA (i:Ins): ∀v∈encI i,isCell v=true:=by simp [encI,isCell]
theorem ldI {l:Nat} {x:Ins} {bk:BK} {K:List Value→Prop} (h:g l=some (.cells (encI x) bk)) (k:K (encI x)):Ql g l 0 5 K:=by
 refine Jt h (by rw [J8];decide) ?_
 rw [List.drop_zero,List.take_of_length_le (by rw [J8];exact Nat.le_refl _)];exact k
def Xaw (n:Int) (h:Bool):Bool:=decide (n=0)||(h&&(decide (0<n)&&decide (n<8)))
def XbR (i:Ins):Bool:=if Qbq i.op 73 then decide (-2147483648≤i.imm)&&(decide (i.imm≤2147483647)&&(decide (0≤i.imm)|| !decide (17≤i.op∧i.op≤20))) else decide (i.imm=0)
def JE (i:Ins):Bool:=Xaw i.a (Qbq i.op 65)&&(Xaw i.b (Qbq i.op 66)&&(Xaw i.c (Qbq i.op 67)&&XbR i))
theorem Qee {op:Int} {K:Cont} (j: ∀n',K (.bool (decide (0≤op∧op≤22))) g n'):AC Xc0 [.int .i64 op] g n K:=by
 refine ACalls.fold Xb ?_
 rw [←JgK]
 simp only [Xhn,JA,XbQ]
 by_cases h:0≤op
 ·refine Ze (by simp [h]) (Ja (Sub.refl _) ?_)
  have e:decide (op≤22)=decide (0≤op∧op≤22):=by simp [h]
  rw [e];exact j _
 ·refine Jc (by simp;omega) (Ja (Sub.refl _) ?_)
  have e:false=decide (0≤op∧op≤22):=by simp [h]
  rw [e];exact j _
theorem JfN {op:Int} {K:Cont} (j: ∀n',K (.bool (decide (17≤op∧op≤20))) g n'):AC Jcc [.int .i64 op] g n K:=by
 refine ACalls.fold Xb ?_
 rw [←JeB]
 simp only [Xey,JA,XbQ]
 by_cases h:17≤op
 ·refine Ze (by simp [h]) (Ja (Sub.refl _) ?_)
  have e:decide (op≤20)=decide (17≤op∧op≤20):=by simp [h]
  rw [e];exact j _
 ·refine Jc (by simp;omega) (Ja (Sub.refl _) ?_)
  have e:false=decide (17≤op∧op≤20):=by simp [h]
  rw [e];exact j _
theorem QbR {x:Int} {b:Bool} {K:Cont} (j: ∀n',K (.bool (Xaw x b)) g n'):AC Zap [.int .i64 x,.bool b] g n K:=by
 refine ACalls.fold Xb ?_
 rw [←Xdt]
 simp only [Zdb,Jq,Zbn,Xk]
 by_cases h:x=0
 ·refine Ze (by simp [h]) (Ja (Sub.refl _) ?_)
  have e:true=Xaw x b:=by simp [Xaw,h]
  rw [e];exact j _
 ·refine Jc (by simp [h]) ?_
  cases b with
  | false=>
   refine Jc rfl (Ja (Sub.refl _) ?_)
   have e:false=Xaw x false:=by simp [Xaw,h]
   rw [e];exact j _
  | true=>
   refine Ze rfl ?_
   by_cases h1:0<x
   ·refine Ze (by simp [h1]) (Ja (Sub.refl _) ?_)
    have e:decide (x<8)=Xaw x true:=by simp [Xaw,h,h1]
    rw [e];exact j _
   ·refine Jc (by simp;omega) (Ja (Sub.refl _) ?_)
    have e:false=Xaw x true:=by simp [Xaw,h,h1]
    rw [e];exact j _
theorem QdH {x:Int} {K:Cont} (j: ∀n',K (.bool (decide (0≤x∧x≤7))) g n'):AC XY [.int .i64 x] g n K:=by
 refine ACalls.fold Xb ?_
 rw [←JcF]
 simp only [Xb1,JA,XbQ]
 by_cases h:0≤x
 ·refine Ze (by simp [h]) (Ja (Sub.refl _) ?_)
  have e:decide (x≤7)=decide (0≤x∧x≤7):=by simp [h]
  rw [e];exact j _
 ·refine Jc (by simp;omega) (Ja (Sub.refl _) ?_)
  have e:false=decide (0≤x∧x≤7):=by simp [h]
  rw [e];exact j _
theorem Xf7 {i:Ins} (U:0≤i.op) (V:i.op≤22) {K:Cont} (E: ∀g' n',Sub g g'→K (.bool (JE i)) g' n'):AC XbT [.agg (encI i).toArray] g n K:=by
 refine ACalls.fold Xb ?_
 rw [←Jdu]
 simp only [Xed,Xe]
 intro Z
 have j:Sub g (upd g n (some (.cells (encI i) .exact))):=(Sub.refl g).new Z _
 have hb:upd g n (some (.cells (encI i) .exact)) n=some (.cells (encI i) .exact):=Xa _ _ _
 generalize upd g n (some (.cells (encI i) .exact))=g1 at j hb
 have I: ∀(t:Env) (m:Nat) (b:Bool),t 7= .bool b→t 3= .string (hs i.op)→t 1=ptr n 0→(b=true→JE i=false)→(b=false→JE i=XbR i)→JaH AC K t g1 m:=by
  intro t m b t7 t3 Y Q O
  simp only [JaH,t7,t3]
  cases b with
  | true=>
   refine Ze rfl (Ja j ?_)
   rw [←Q rfl];exact E _ _ (Sub.refl g)
  | false=>
   refine Jc rfl (Zdo (c:=73) (.inr (.inr (.inr rfl))) λn1=> ?_)
   rw [JG]
   have e:=O rfl
   by_cases hI:Qbq i.op 73=true
   ·refine Jc (by simp [hI]) ?_
    have p1:puts t [(31,.string (hs i.op)),(32,.bool (Qbq i.op 73)),(33,.bool !Qbq i.op 73),(30,.bool !Qbq i.op 73)] 1=ptr n 0:=Y
    simp only [QdG,p1,Qb,Nat.zero_add]
    refine Zb hb rfl ?_
    simp only [JA]
    by_cases q1: -2147483648≤i.imm
    ·refine Ze (by simpa using q1) (Zb hb rfl ?_)
     simp only [XbQ]
     by_cases q2:i.imm≤2147483647
     ·refine Ze (by simpa using q2) (Zb hb rfl ?_)
      simp only [JA]
      by_cases q3:0≤i.imm
      ·refine Ze (by simpa using q3) (Ja j ?_)
       have e2:JE i=true:=by rw [e];simp [XbR,hI,q1,q2,q3]
       rw [←e2];exact E _ _ (Sub.refl g)
      ·refine Jc (by simpa using q3) (Zb hb rfl (JfN λn2=> ?_))
       rw [JG]
       refine Ja j ?_
       have e2:JE i= !decide (17≤i.op∧i.op≤20):=by rw [e];simp [XbR,hI,q1,q2,q3]
       rw [←e2];exact E _ _ (Sub.refl g)
     ·refine Jc (by simpa using q2) (Ja j ?_)
      have e2:JE i=false:=by rw [e];simp [XbR,hI,q2]
      rw [←e2];exact E _ _ (Sub.refl g)
    ·refine Jc (by simpa using q1) (Ja j ?_)
     have e2:JE i=false:=by rw [e];simp [XbR,hI,q1]
     rw [←e2];exact E _ _ (Sub.refl g)
   ·refine Ze (by simp [hI]) ?_
    simp only [Y,Qb,Nat.zero_add]
    refine Zb hb rfl ?_
    simp only [Jq]
    refine Ja j ?_
    have e2:JE i=decide (i.imm=0):=by rw [e];simp [XbR,hI]
    rw [←e2];exact E _ _ (Sub.refl g)
 refine Zb hb rfl (Xgy U V λn1=> ?_)
 refine Zb hb rfl (Qee λn2=> ?_)
 have J:decide (0≤i.op∧i.op≤22)=true:=by simp [U,V]
 rw [J,JG]
 refine Jc rfl (Zb hb rfl (Zdo (c:=65) (.inl rfl) λn3=>⟨rfl,QbR λn4=> ?_⟩))
 rw [JG]
 by_cases r1:Xaw i.a (Qbq i.op 65)=true
 ·refine Jc (by simp [r1]) (Zb hb rfl (Zdo (c:=66) (.inr (.inl rfl)) λn5=>⟨rfl,QbR λn6=> ?_⟩))
  rw [JG]
  by_cases r2:Xaw i.b (Qbq i.op 66)=true
  ·refine Jc (by simp [r2]) (Zb hb rfl (Zdo (c:=67) (.inr (.inr (.inl rfl))) λn7=>⟨rfl,QbR λn8=> ?_⟩))
   rw [JG]
   refine I _ _ (!Xaw i.c (Qbq i.op 67)) rfl rfl rfl (λh=> ?_) (λh=> ?_)
   ·simp at h;simp [JE,h]
   ·simp at h;simp [JE,r1,r2,h]
  ·refine Ze (by simp [r2]) (I _ _ (!Xaw i.b (Qbq i.op 66)) rfl rfl rfl (λh=> ?_) (λh=> ?_))
   ·simp at h;simp [JE,h]
   ·simp [r2] at h
 ·refine Ze (by simp [r1]) (I _ _ (!Xaw i.a (Qbq i.op 65)) rfl rfl rfl (λh=> ?_) (λh=> ?_))
  ·simp at h;simp [JE,h]
  ·simp [r1] at h
end
section
variable {g:G} {n:Nat}
def OrS (t:Env) (p q:Nat) (x:Bool):Prop:=(t p= .bool true∧x=true)∨(t p= .bool false∧t q= .bool x)
def AndS (t:Env) (p q:Nat) (x:Bool):Prop:=(t p= .bool true∧t q= .bool x)∨(t p= .bool false∧x=false)
theorem OrS.go {t:Env} {p q:Nat} {x:Bool} {A B:Bool→Prop} (h:OrS t p q x) (I:x=true→ ∀b,A b) (J:x=false→ ∀b,B b):Jbz (t p) λb=>Qa (bif b then (.bool true) else (t q)) (A b) (B b):=by
 rcases h with ⟨j,E⟩|⟨j,E⟩
 ·rw [j];exact I E _
 ·rw [j];show Qa (t q) _ _;rw [E];cases x with
  | true=>exact I rfl _
  | false=>exact J rfl _
theorem AndS.go {t:Env} {p q:Nat} {x:Bool} {A B:Bool→Prop} (h:AndS t p q x) (J:x=true→ ∀b,A b) (I:x=false→ ∀b,B b):Jbz (t p) λb=>Qa (bif b then (t q) else (.bool false)) (A b) (B b):=by
 rcases h with ⟨j,E⟩|⟨j,E⟩
 ·rw [j];show Qa (t q) _ _;rw [E];cases x with
  | true=>exact J rfl _
  | false=>exact I rfl _
 ·rw [j];exact I E _
section
variable {i:Ins} {K:Cont} {l:Nat} {t:Env} {m:Nat}
abbrev IH (g:G) (l:Nat) (i:Ins):Prop:=g l=some (.cells (encI i) .exact)
theorem rG8 (hb:IH g l i) (I: ∀m,K (.bool (JE i)) g m) {x j:Bool} (O:AndS t 104 107 x) (J:t 3= .bool j) (Q:t 1=ptr l 0) (E:JE i=(x&&(!j||decide (0≤i.imm)))):QF AC K t g m:=by
 simp only [QF]
 refine O.go (λhx _=> ?_) (λhx _=> ?_)
 ·rw [J,JG]
  cases j with
  | false=>
   refine Ze rfl (Ja (Sub.refl _) ?_)
   have e:true=JE i:=by rw [E,hx];rfl
   rw [e];exact I _
  | true=>
   refine Jc rfl ?_
   rw [Q,Qb]
   refine Zb hb rfl ?_
   simp only [JA]
   refine Ja (Sub.refl _) ?_
   have e:decide (0≤i.imm)=JE i:=by rw [E,hx];rfl
   rw [e];exact I _
 ·refine Ja (Sub.refl _) ?_
  have e:false=JE i:=by rw [E,hx];rfl
  rw [e];exact I _
theorem rG7 (hb:IH g l i) (J: ∀m,K (.bool (JE i)) g m) {x:Bool} (O:OrS t 91 94 x) (E:t 1=ptr l 0)
  (I:JE i=((decide (-2147483648≤i.imm)&&decide (i.imm<2147483648))&&(!(x||decide (i.op=20))||decide (0≤i.imm)))):J9 AC K t g m:=by
 simp only [J9]
 refine O.go (λhx _=> ?_) (λhx _=> ?_)
 ·rw [E,Qb]
  refine Zb hb rfl ?_
  simp only [JA]
  by_cases q: -2147483648≤i.imm
  ·refine Ze (by simpa using q) ?_
   rw [Qb]
   refine Zb hb rfl ?_
   simp only [Xk]
   exact rG8 hb J (x:=decide (i.imm<2147483648)) (.inl ⟨rfl,rfl⟩) (j:=true) rfl E (by rw [I,hx];simp [q])
  ·exact Jc (by simpa using q) (rG8 hb J (x:=false) (.inr ⟨rfl,rfl⟩) (j:=true) rfl E (by rw [I];simp [q]))
 ·rw [E,Qb]
  refine Zb hb rfl ?_
  simp only [Jq,Qb]
  refine Zb hb rfl ?_
  simp only [JA]
  by_cases q: -2147483648≤i.imm
  ·refine Ze (by simpa using q) ?_
   refine Zb hb rfl ?_
   simp only [Xk]
   exact rG8 hb J (x:=decide (i.imm<2147483648)) (.inl ⟨rfl,rfl⟩) (j:=decide (i.op=20)) rfl E (by rw [I,hx];simp [q])
  ·exact Jc (by simpa using q) (rG8 hb J (x:=false) (.inr ⟨rfl,rfl⟩) (j:=decide (i.op=20)) rfl E (by rw [I];simp [q]))
theorem rG6 (hb:IH g l i) (I: ∀m,K (.bool (JE i)) g m) {x:Bool} (J:OrS t 86 89 x) (j:t 1=ptr l 0)
  (E:JE i=((decide (-2147483648≤i.imm)&&decide (i.imm<2147483648))&&(!((x||decide (i.op=19))||decide (i.op=20))||decide (0≤i.imm)))):JF AC K t g m:=by
 simp only [JF]
 refine J.go (λhx _=> ?_) (λhx _=> ?_)
 ·exact rG7 hb I (x:=true) (.inl ⟨rfl,rfl⟩) j (by rw [E,hx];rfl)
 ·rw [j,Qb]
  refine Zb hb rfl ?_
  simp only [Jq]
  exact rG7 hb I (x:=decide (i.op=19)) (.inr ⟨rfl,rfl⟩) j (by rw [E,hx,Bool.false_or])
theorem Xfn (i:Ins) (h:Qbq i.op 73=true):XbR i=((decide (-2147483648≤i.imm)&&decide (i.imm<2147483648))&&(!(((decide (i.op=17)||decide (i.op=18))||decide (i.op=19))||decide (i.op=20))||decide (0≤i.imm))):=by
 unfold XbR;rw [if_pos h,Bool.eq_iff_iff]
 simp only [Bool.and_eq_true,Bool.or_eq_true,Bool.not_eq_true',decide_eq_true_eq,decide_eq_false_iff_not,Bool.or_eq_false_iff]
 omega
theorem rG5 (hb:IH g l i) (Q:0≤i.op) (I:i.op≤22) (E: ∀m,K (.bool (JE i)) g m) {x:Bool} (Y:OrS t 54 63 x) (J:t 1=ptr l 0)
  (U:x=true→JE i=false) (O:x=false→JE i=((Qbq i.op 67||decide (i.c=0))&&XbR i)):JR AC K t g m:=by
 simp only [JR]
 refine Y.go (λhx _=> ?_) (λhx _=> ?_)
 ·refine Ja (Sub.refl _) ?_
  rw [←U hx];exact E _
 ·have j:=O hx
  rw [J,Qb]
  refine Zb hb rfl (QaY Q I (c:=67) (.inr (.inr (.inl rfl))) λn1=> ?_)
  rw [JG]
  by_cases hc:Qbq i.op 67=true
  ·refine Jc (by simp [hc]) ?_
   simp only [hc,Bool.true_or,Bool.true_and] at j
   rw [Qb]
   refine Zb hb rfl (QaY Q I (c:=73) (.inr (.inr (.inr rfl))) λn2=> ?_)
   rw [JG]
   by_cases hI:Qbq i.op 73=true
   ·refine Jc (by simp [hI]) ?_
    rw [Xfn i hI] at j
    rw [Qb]
    refine Zb hb rfl ?_
    simp only [Jq]
    by_cases q:i.op=17
    ·exact Ze (by simpa using q) (rG6 hb E (x:=true) (.inl ⟨rfl,rfl⟩) J (by rw [j];simp [q]))
    ·refine Jc (by simpa using q) ?_
     rw [Qb]
     refine Zb hb rfl ?_
     simp only [Jq]
     exact rG6 hb E (x:=decide (i.op=18)) (.inr ⟨rfl,rfl⟩) J (by rw [j];simp [q])
   ·refine Ze (by simp [hI]) ?_
    rw [Qb]
    refine Zb hb rfl ?_
    simp only [Jq]
    refine Ja (Sub.refl _) ?_
    have e:decide (i.imm=0)=JE i:=by rw [j];simp [XbR,hI]
    rw [e];exact E _
  ·refine Ze (by simp [hc]) ?_
   have V:Qbq i.op 67=false:=by simpa using hc
   simp only [V,Bool.false_or] at j
   rw [Qb]
   refine Zb hb rfl ?_
   simp only [Jal]
   by_cases qc:i.c=0
   ·refine Jc (by simpa using qc) ?_
    simp only [qc,decide_true,Bool.true_and] at j
    rw [Qb]
    refine Zb hb rfl (QaY Q I (c:=73) (.inr (.inr (.inr rfl))) λn2=> ?_)
    rw [JG]
    by_cases hI:Qbq i.op 73=true
    ·refine Jc (by simp [hI]) ?_
     rw [Xfn i hI] at j
     rw [Qb]
     refine Zb hb rfl ?_
     simp only [Jq]
     by_cases q:i.op=17
     ·exact Ze (by simpa using q) (rG6 hb E (x:=true) (.inl ⟨rfl,rfl⟩) J (by rw [j];simp [q]))
     ·refine Jc (by simpa using q) ?_
      rw [Qb]
      refine Zb hb rfl ?_
      simp only [Jq]
      exact rG6 hb E (x:=decide (i.op=18)) (.inr ⟨rfl,rfl⟩) J (by rw [j];simp [q])
    ·refine Ze (by simp [hI]) ?_
     rw [Qb]
     refine Zb hb rfl ?_
     simp only [Jq]
     refine Ja (Sub.refl _) ?_
     have e:decide (i.imm=0)=JE i:=by rw [j];simp [XbR,hI]
     rw [e];exact E _
   ·refine Ze (by simpa using qc) (Ja (Sub.refl _) ?_)
    have e:false=JE i:=by rw [j];simp [qc]
    rw [e];exact E _
theorem Qeo (x:Int) (h:Bool):(!Xaw x h)=((h&& !decide (0≤x∧x≤7))||(!h&&decide (x≠0))):=by
 unfold Xaw;cases h<;>rw [Bool.eq_iff_iff]<;>simp<;>omega
theorem rG4 (hb:IH g l i) (J:0≤i.op) (E:i.op≤22) (Y: ∀m,K (.bool (JE i)) g m) {x:Bool} (Z:OrS t 43 52 x) (O:t 1=ptr l 0)
  (V:x=true→JE i=false) (Q:x=false→JE i=(Xaw i.c (Qbq i.op 67)&&XbR i)):ZS AC K t g m:=by
 simp only [ZS]
 refine Z.go (λhx _=> ?_) (λhx _=> ?_)
 ·exact rG5 hb J E Y (x:=true) (.inl ⟨rfl,rfl⟩) O (λ_=>V hx) (λh=>by cases h)
 ·have U:=Q hx
  have j:=Qeo i.c (Qbq i.op 67)
  rw [O,Qb]
  refine Zb hb rfl (QaY J E (c:=67) (.inr (.inr (.inl rfl))) λn1=> ?_)
  by_cases hc:Qbq i.op 67=true
  ·refine Ze hc ?_
   rw [Qb]
   refine Zb hb rfl (QdH λn2=> ?_)
   rw [JG]
   refine rG5 hb J E Y (x:= !decide (0≤i.c∧i.c≤7)) (.inr ⟨rfl,rfl⟩) O (λh=> ?_) (λh=> ?_)
   ·rw [hc] at j;simp only [Bool.true_and,Bool.not_true,Bool.false_and,Bool.or_false] at j
    rw [h] at j;rw [U,hc];simp at j;simp [j]
   ·rw [hc] at j;simp only [Bool.true_and,Bool.not_true,Bool.false_and,Bool.or_false] at j
    rw [h] at j;rw [U,hc];simp at j;simp [j]
  ·have I:Qbq i.op 67=false:=by simpa using hc
   refine Jc I ?_
   refine rG5 hb J E Y (x:=false) (.inr ⟨rfl,rfl⟩) O (λh=>by cases h) (λ_=> ?_)
   rw [U,I]
   have:Xaw i.c false=decide (i.c=0):=by simp [Xaw]
   rw [this,Bool.false_or]
theorem rG3 (hb:IH g l i) (I:0≤i.op) (j:i.op≤22) (V: ∀m,K (.bool (JE i)) g m) {x:Bool} (Y:OrS t 32 41 x) (J:t 1=ptr l 0)
  (U:x=true→JE i=false) (O:x=false→JE i=((Qbq i.op 66||decide (i.b=0))&&(Xaw i.c (Qbq i.op 67)&&XbR i))):QS AC K t g m:=by
 simp only [QS]
 refine Y.go (λhx _=> ?_) (λhx _=> ?_)
 ·exact rG4 hb I j V (x:=true) (.inl ⟨rfl,rfl⟩) J (λ_=>U hx) (λh=>by cases h)
 ·have Q:=O hx
  rw [J,Qb]
  refine Zb hb rfl (QaY I j (c:=66) (.inr (.inl rfl)) λn1=> ?_)
  rw [JG]
  by_cases hc:Qbq i.op 66=true
  ·refine Jc (by simp [hc]) (rG4 hb I j V (x:=false) (.inr ⟨rfl,rfl⟩) J (λh=>by cases h) (λ_=> ?_))
   rw [Q,hc];rfl
  ·have E:Qbq i.op 66=false:=by simpa using hc
   refine Ze (by simp [E]) ?_
   rw [Qb]
   refine Zb hb rfl ?_
   simp only [Jal]
   refine rG4 hb I j V (x:=decide (i.b≠0)) (.inr ⟨rfl,rfl⟩) J (λh=> ?_) (λh=> ?_)
   ·simp at h;rw [Q,E];simp [h]
   ·simp at h;rw [Q,E];simp [h]
theorem rG2 (hb:IH g l i) (J:0≤i.op) (E:i.op≤22) (Y: ∀m,K (.bool (JE i)) g m) {x:Bool} (Z:OrS t 21 30 x) (O:t 1=ptr l 0)
  (V:x=true→JE i=false) (Q:x=false→JE i=(Xaw i.b (Qbq i.op 66)&&(Xaw i.c (Qbq i.op 67)&&XbR i))):XR AC K t g m:=by
 simp only [XR]
 refine Z.go (λhx _=> ?_) (λhx _=> ?_)
 ·exact rG3 hb J E Y (x:=true) (.inl ⟨rfl,rfl⟩) O (λ_=>V hx) (λh=>by cases h)
 ·have U:=Q hx
  have j:=Qeo i.b (Qbq i.op 66)
  rw [O,Qb]
  refine Zb hb rfl (QaY J E (c:=66) (.inr (.inl rfl)) λn1=> ?_)
  by_cases hc:Qbq i.op 66=true
  ·refine Ze hc ?_
   rw [Qb]
   refine Zb hb rfl (QdH λn2=> ?_)
   rw [JG]
   refine rG3 hb J E Y (x:= !decide (0≤i.b∧i.b≤7)) (.inr ⟨rfl,rfl⟩) O (λh=> ?_) (λh=> ?_)
   ·rw [hc] at j;simp only [Bool.true_and,Bool.not_true,Bool.false_and,Bool.or_false] at j
    rw [h] at j;rw [U,hc];simp at j;simp [j]
   ·rw [hc] at j;simp only [Bool.true_and,Bool.not_true,Bool.false_and,Bool.or_false] at j
    rw [h] at j;rw [U,hc];simp at j;simp [j]
  ·have I:Qbq i.op 66=false:=by simpa using hc
   refine Jc I ?_
   refine rG3 hb J E Y (x:=false) (.inr ⟨rfl,rfl⟩) O (λh=>by cases h) (λ_=> ?_)
   rw [U,I]
   have:Xaw i.b false=decide (i.b=0):=by simp [Xaw]
   rw [this,Bool.false_or]
theorem rG1 (hb:IH g l i) (I:0≤i.op) (j:i.op≤22) (V: ∀m,K (.bool (JE i)) g m) {x:Bool} (Y:AndS t 15 19 x) (J:t 1=ptr l 0)
  (U:x=true→JE i=false) (O:x=false→JE i=((Qbq i.op 65||decide (i.a=0))&&(Xaw i.b (Qbq i.op 66)&&(Xaw i.c (Qbq i.op 67)&&XbR i)))):Q9 AC K t g m:=by
 simp only [Q9]
 refine Y.go (λhx _=> ?_) (λhx _=> ?_)
 ·exact rG2 hb I j V (x:=true) (.inl ⟨rfl,rfl⟩) J (λ_=>U hx) (λh=>by cases h)
 ·have Q:=O hx
  rw [J,Qb]
  refine Zb hb rfl (QaY I j (c:=65) (.inl rfl) λn1=> ?_)
  rw [JG]
  by_cases hc:Qbq i.op 65=true
  ·refine Jc (by simp [hc]) (rG2 hb I j V (x:=false) (.inr ⟨rfl,rfl⟩) J (λh=>by cases h) (λ_=> ?_))
   rw [Q,hc];rfl
  ·have E:Qbq i.op 65=false:=by simpa using hc
   refine Ze (by simp [E]) ?_
   rw [Qb]
   refine Zb hb rfl ?_
   simp only [Jal]
   refine rG2 hb I j V (x:=decide (i.a≠0)) (.inr ⟨rfl,rfl⟩) J (λh=> ?_) (λh=> ?_)
   ·simp at h;rw [Q,E];simp [h]
   ·simp at h;rw [Q,E];simp [h]
end
theorem JeO {i:Ins} (J:0≤i.op) (O:i.op≤22) {K:Cont} (Y: ∀g' n',Sub g g'→K (.bool (JE i)) g' n'):AC Xav [.agg (encI i).toArray] g n K:=by
 refine ACalls.fold Xb ?_
 rw [←Jcq]
 simp only [Jbx,Xe]
 intro U
 have Q:Sub g (upd g n (some (.cells (encI i) .exact))):=(Sub.refl g).new U _
 have hb:upd g n (some (.cells (encI i) .exact)) n=some (.cells (encI i) .exact):=Xa _ _ _
 generalize upd g n (some (.cells (encI i) .exact))=V at Q hb
 have E: ∀m,K (.bool (JE i)) V m:=λm=>Y _ _ Q
 have j:=Qeo i.a (Qbq i.op 65)
 refine Zb hb rfl ?_
 simp only [Xk]
 refine Jc (by simpa using J) (Zb hb rfl ?_)
 simp only [Zbn]
 refine Jc (by simpa using O) (Zb hb rfl (QaY J O (c:=65) (.inl rfl) λn1=> ?_))
 by_cases hc:Qbq i.op 65=true
 ·refine Ze hc (Zb hb rfl (QdH λn2=> ?_))
  rw [JG]
  refine rG1 hb J O E (x:= !decide (0≤i.a∧i.a≤7)) (.inl ⟨rfl,rfl⟩) rfl (λh=> ?_) (λh=> ?_)
  ·rw [hc] at j;simp only [Bool.true_and,Bool.not_true,Bool.false_and,Bool.or_false] at j
   rw [h] at j;simp at j;simp [JE,hc,j]
  ·rw [hc] at j;simp only [Bool.true_and,Bool.not_true,Bool.false_and,Bool.or_false] at j
   rw [h] at j;simp at j;simp [JE,hc,j]
 ·have I:Qbq i.op 65=false:=by simpa using hc
  refine Jc I (rG1 hb J O E (x:=false) (.inr ⟨rfl,rfl⟩) rfl (λh=>by cases h) (λ_=> ?_))
  have:Xaw i.a false=decide (i.a=0):=by simp [Xaw]
  simp [JE,I,this]
end
section
variable {g:G} {n:Nat}
def ZdU (i:Ins):Int:=i.op+i.a*256+i.b*4096+i.c*65536+(i.imm%4294967296)*4294967296
def ZaU (i:Ins):Int×Int:=if JE i then (ZdU i,0) else (0,11)
theorem Xbm {i:Ins} (h:JE i=true):(0≤i.a∧i.a≤7)∧(0≤i.b∧i.b≤7)∧(0≤i.c∧i.c≤7)∧ -2147483648≤i.imm∧i.imm≤2147483647:=by
 have r: ∀x b,Xaw x b=true→0≤x∧x≤7:=by
  intro x b h;unfold Xaw at h;cases b<;>simp at h<;>omega
 unfold JE at h
 simp only [Bool.and_eq_true] at h
 obtain ⟨I,J,E,j⟩:=h
 refine ⟨r _ _ I,r _ _ J,r _ _ E,?_⟩
 unfold XbR at j
 split at j
 ·simp only [Bool.and_eq_true,decide_eq_true_eq] at j;omega
 ·simp only [decide_eq_true_eq] at j;omega
theorem XeW {x:Int} (j:0≤x) (E:x<18446744073709551616):IntKind.u64.wrap x=x:=IntWalk.u64_in x ⟨j,by omega⟩
theorem JgQ {x s:Int} {K:Value→Prop} (hs:0≤s) (kk:K (.int .u64 (IntKind.u64.wrap (x*2^(min s.toNat 64))))):Jb .int .shl (.int .u64 x) (.int .u64 s) K:=⟨trivial,hs,kk⟩
theorem Jih (x:Int):IntKind.u64.wrap (IntKind.u64.wrap x*4294967296)=x%4294967296*4294967296:=by
 have w: ∀x,IntKind.u64.wrap x=x%18446744073709551616:=λx=>rfl
 rw [w,w];omega
theorem ZeT {i:Ins} (Q:0≤i.op) (V:i.op≤22) {K:Cont} (U: ∀g' n',Sub g g'→K (.tuple #[.int .u64 (ZaU i).1,.int .i64 (ZaU i).2]) g' n'):AC Qak [.agg (encI i).toArray] g n K:=by
 refine ACalls.fold Xb ?_
 rw [←Qb3]
 simp only [Zbd,Xe]
 intro Y
 have J:Sub g (upd g n (some (.cells (encI i) .exact))):=(Sub.refl g).new Y _
 have hb:upd g n (some (.cells (encI i) .exact)) n=some (.cells (encI i) .exact):=Xa _ _ _
 generalize upd g n (some (.cells (encI i) .exact))=g1 at J hb
 refine ldI hb (JeO Q V λg2 n2 I=> ?_)
 have E:=I.live hb
 rw [JG]
 by_cases hG:JE i=true
 ·refine Jc (by simp [hG]) ?_
  obtain ⟨ha,O,hc,hi⟩:=Xbm hG
  have j: ∀(t:Env) (m:Nat),t 1=ptr n 0→t 4= .int .i64 (i.imm%4294967296)→X1 AC K t g2 m:=by
   intro t m t1 Z
   simp only [X1,t1,Z,Qb,Nat.zero_add]
   refine Zb E rfl ?_
   rw [Xbi]
   refine Zb E rfl ?_
   rw [Xbi]
   refine JgQ (by decide) ?_
   rw [XeW Q (by omega),XeW ha.1 (by omega),show (2:Int)^(min (8:Int).toNat 64)=256 from rfl,XeW (x:=i.a*256) (by omega) (by omega),Jf,XeW (x:=i.op+i.a*256) (by omega) (by omega)]
   refine Zb E rfl ?_
   rw [Xbi]
   refine JgQ (by decide) ?_
   rw [XeW O.1 (by omega),show (2:Int)^(min (12:Int).toNat 64)=4096 from rfl,XeW (x:=i.b*4096) (by omega) (by omega),Jf,XeW (x:=i.op+i.a*256+i.b*4096) (by omega) (by omega)]
   refine Zb E rfl ?_
   rw [Xbi]
   refine JgQ (by decide) ?_
   rw [XeW hc.1 (by omega),show (2:Int)^(min (16:Int).toNat 64)=65536 from rfl,XeW (x:=i.c*65536) (by omega) (by omega),Jf,XeW (x:=i.op+i.a*256+i.b*4096+i.c*65536) (by omega) (by omega),Xbi]
   refine JgQ (by decide) ?_
   rw [show (2:Int)^(min (32:Int).toNat 64)=4294967296 from rfl,Jih,Int.emod_emod_of_dvd _ (Int.dvd_refl _),Jf,XeW (x:=i.op+i.a*256+i.b*4096+i.c*65536+i.imm%4294967296*4294967296) (by omega) (by omega)]
   refine Ja (J.trans I) ?_
   have e:ZaU i=(ZdU i,0):=by unfold ZaU;rw [if_pos hG]
   have:=U _ m (Sub.refl g)
   rw [e] at this
   exact this
  refine Zb E rfl ?_
  rw [Xk]
  by_cases hneg:i.imm<0
  ·refine Ze (by simpa using hneg) ?_
   rw [Jf,Qg (by omega) (by omega)]
   refine j _ _ rfl ?_
   show Value.int .i64 (i.imm+4294967296)=_
   congr 1;omega
  ·refine Jc (by simpa using hneg) (j _ _ rfl ?_)
   show Value.int .i64 i.imm=_
   congr 1;omega
 ·refine Ze (by simp [hG]) (Ja (J.trans I) ?_)
  have e:ZaU i=(0,11):=by unfold ZaU;rw [if_neg hG]
  have:=U _ n2 (Sub.refl g)
  rw [e] at this
  exact this
end
section
structure SE where
 kind:Int
 line:Int
 word:Int
 val:Int
 sent:Bool
def Qj (e:SE):List Value:=[.int .i64 e.kind,.int .i64 e.line,.int .i64 e.word,.int .u64 e.val,.bool e.sent]
theorem JB (e:SE):(Qj e).length=5:=rfl
theorem Qcm (e:SE): ∀v∈Qj e,isCell v=true:=by simp [Qj,isCell]
def Jm:SE:=⟨0,0,0,0,false⟩
def SE.good (e:SE):Bool:=decide (0≤e.line∧e.line<64∧0≤e.word∧e.word<8∧e.sent=false∧(e.kind=9∨((e.kind=12∨e.kind=13∨e.kind=14)∧e.word=0∧e.val=0)))
def JfT (line word:Int) (e:SE):Bool:=decide (e.kind=9∧e.line=line∧e.word=word)
def ZcW (b:List SE) (line word:Int):Option Int:=(b.reverse.find? (JfT line word)).map (·.val)
structure Evt where
 kind:Int
 core:Int
 line:Int
 word:Int
 val:Int
 deriving DecidableEq
def Xbb (e:Evt):List Value:=[.int .i64 e.kind,.int .i64 e.core,.int .i64 e.line,.int .i64 e.word,.int .u64 e.val]
theorem JaC (e:Evt):(Xbb e).length=5:=rfl
theorem JdD (e:Evt): ∀v∈Xbb e,isCell v=true:=by simp [Xbb,isCell]
structure Cr where
 id:Int
 room:Int
 r:List Int
 place:Int
 us:List Int
 b:List SE
 waits:Int
 runs:Bool
def ZeX (u:Int):Ins:=⟨u%256,u/256%16,u/4096%16,u/65536%16,IntKind.i64.wrap u/4294967296⟩
def decode (u:Int):Option Ins:=if u%4294967296/1048576=0∧(ZeX u).op≤22∧JE (ZeX u)=true then some (ZeX u) else none
def addrOf (L addr:Int):Option (Int×Int):=if addr%8=0∧addr<L*64 then some (addr/64,addr%64/8) else none
def Xh7 (b imm:Int):Int:=IntKind.u64.wrap (b+IntKind.u64.wrap imm)
def Cr.reg (C:Cr) (k:Int):Int:=C.r[k.toNat]?.getD 0
def Cr.setR (C:Cr) (k v:Int):Cr:={ C with r:=C.r.set k.toNat v }
def Cr.next (C:Cr):Cr:={ C with place:=C.place+1 }
def Cr.at (C:Cr) (L:Int) (i:Ins):Option (Int×Int):=addrOf L (Xh7 (C.reg i.b) i.imm)
def Cr.ev (C:Cr) (kind line word val:Int):Evt:=⟨kind,C.id,line,word,val⟩
def Cr.still (C:Cr):Bool:=C.b.isEmpty&&decide (C.waits=0)
abbrev Res:=Cr×Sys×List Evt
def Cr.trap (C:Cr) (S:Sys):Res:=({ C with runs:=false },S,[C.ev 10 0 0 0])
def Cr.loadX (C:Cr) (S:Sys) (i:Ins):Res:=match C.at S.c.lines i with
 | none=>C.trap S
 | some (l,w)=>match ZcW C.b l w with
  | some v=>((C.setR i.a v).next,S,[C.ev 2 l w v])
  | none=>if (S.load C.id l w).2.2 then ((C.setR i.a (S.load C.id l w).2.1).next,(S.load C.id l w).1,[C.ev 1 l w (S.load C.id l w).2.1]) else (C,(S.load C.id l w).1,[])
def Cr.entry (C:Cr) (i:Ins) (l w:Int):SE:=if i.op=9 then ⟨9,l,w,C.reg i.a,false⟩ else ⟨i.op,l,0,0,false⟩
def Cr.putX (C:Cr) (S:Sys) (i:Ins):Res:=match C.at S.c.lines i with
 | none=>C.trap S
 | some (l,w)=>if C.room≤C.b.length then (C,S,[]) else
  ({ C with b:=C.b++[C.entry i l w] }.next,S,[if i.op=9 then C.ev 12 l w (C.reg i.a) else C.ev 14 l 0 0])
def Cr.fenceX (C:Cr) (S:Sys):Res:=if C.still then (C.next,S,[C.ev 7 0 0 0]) else (C,S,[])
def Cr.lockX (C:Cr) (S:Sys) (i:Ins):Res:=match C.at S.c.lines i with
 | none=>C.trap S
 | some (l,w)=>if C.still=false then (C,S,[]) else if (S.reach C.id l).2=false then (C,(S.reach C.id l).1,[]) else
  if i.op=11 then
   ((C.setR i.a ((S.reach C.id l).1.load C.id l w).2.1).next,(((S.reach C.id l).1.load C.id l w).1.store C.id l w (IntKind.u64.wrap (((S.reach C.id l).1.load C.id l w).2.1+C.reg i.c))).1,
    [C.ev 4 l w ((S.reach C.id l).1.load C.id l w).2.1,C.ev 3 l w (IntKind.u64.wrap (((S.reach C.id l).1.load C.id l w).2.1+C.reg i.c))])
  else if ((S.reach C.id l).1.load C.id l w).2.1=C.reg i.a then
   ((C.setR i.a ((S.reach C.id l).1.load C.id l w).2.1).next,(((S.reach C.id l).1.load C.id l w).1.store C.id l w (C.reg i.c)).1,
    [C.ev 4 l w ((S.reach C.id l).1.load C.id l w).2.1,C.ev 3 l w (C.reg i.c)])
  else ((C.setR i.a ((S.reach C.id l).1.load C.id l w).2.1).next,((S.reach C.id l).1.load C.id l w).1,[C.ev 4 l w ((S.reach C.id l).1.load C.id l w).2.1])
def ZhO (op b c:Int):Int:=
 if op=2 then IntKind.u64.wrap (b+c) else if op=3 then IntKind.u64.wrap (b-c)
 else if op=4 then IntKind.u64.wrap (BitVec.ofInt 64 b &&& BitVec.ofInt 64 c).toNat else if op=5 then IntKind.u64.wrap (BitVec.ofInt 64 b ^^^ BitVec.ofInt 64 c).toNat
 else if op=6 then IntKind.u64.wrap (b*2^(min (c.tmod 64).toNat 64)) else b.fdiv (2^(min (c.tmod 64).toNat 64))
def Zek (op a b:Int):Bool:=if op=17 then true else if op=18 then decide (a=b) else if op=19 then decide (a≠b) else if op=20 then decide (a<b) else false
def Cr.reckonX (C:Cr) (i:Ins):Cr:=
 if 2≤i.op∧i.op≤7 then (C.setR i.a (ZhO i.op (C.reg i.b) (C.reg i.c))).next
 else if Zek i.op (C.reg i.a) (C.reg i.b) then { C with place:=i.imm } else C.next
def Cr.doX (C:Cr) (S:Sys) (i:Ins):Res:=
 if i.op=0 then (C.next,S,[]) else if i.op=1 then ((C.setR i.a (IntKind.u64.wrap i.imm)).next,S,[]) else if i.op=8 then C.loadX S i
 else if i.op=9∨i.op=12∨i.op=13∨i.op=14 then C.putX S i else if i.op=15∨i.op=16 then C.fenceX S else if i.op=10∨i.op=11 then C.lockX S i
 else if i.op=21 then (C.next,S,[C.ev 8 0 0 (C.reg i.a)]) else if i.op=22 then ({ C with runs:=false },S,[C.ev 9 0 0 0]) else (C.reckonX i,S,[])
def Cr.exec (C:Cr) (S:Sys):Res:=if C.runs=false then (C,S,[]) else match C.us[C.place.toNat]? with
 | none=>C.trap S
 | some u=>match decode u with
  | none=>C.trap S
  | some i=>C.doX S i
def Cr.flushX (C:Cr) (S:Sys) (line kind:Int):Res×Bool:=
 if 16≤C.waits then ((C,S,[]),false) else if (S.flush C.id line kind).2≠0 then ((C,(S.flush C.id line kind).1,[]),false)
 else (({ C with waits:=C.waits+1 },(S.flush C.id line kind).1,[C.ev 13 line 0 0]),true)
def Cr.pop (C:Cr):Cr:={ C with b:=C.b.tail }
def Cr.drain (C:Cr) (S:Sys):Res:=match C.b with
 | []=>(C,S,[])
 | e::t=>
  if e.kind=9 then (if (S.store C.id e.line e.word e.val).2 then (C.pop,(S.store C.id e.line e.word e.val).1,[C.ev 3 e.line e.word e.val]) else (C,(S.store C.id e.line e.word e.val).1,[]))
  else if e.kind=12 then (if (C.flushX S e.line 4).2 then ((C.flushX S e.line 4).1.1.pop,(C.flushX S e.line 4).1.2) else (C.flushX S e.line 4).1)
  else if e.kind=13 then (if (C.flushX S e.line 5).2 then ((C.flushX S e.line 5).1.1.pop,(C.flushX S e.line 5).1.2) else (C.flushX S e.line 5).1)
  else if e.sent then (if C.waits=0 then (C.pop,S,[]) else (C,S,[]))
  else if (C.flushX S e.line 5).2 then ({ (C.flushX S e.line 5).1.1 with b:={ e with sent:=true }::t },(C.flushX S e.line 5).1.2) else (C.flushX S e.line 5).1
def Cr.hear (C:Cr) (m:Ms):Cr×List Evt:=if m.kind=14∧C.waits≠0 then ({ C with waits:=C.waits-1 },[C.ev 6 m.line 0 0]) else (C,[])
def Xa3 (id room:Int) (us:List Int):Cr:=⟨id,room,[0,0,0,0,0,0,0,0],0,us,[],0,true⟩
structure SE.ok (e:SE):Prop where
 line:0≤e.line∧e.line<64
 word:0≤e.word∧e.word<8
 kind:e.kind=9∨e.kind=12∨e.kind=13∨e.kind=14
structure Cr.ok (C:Cr):Prop where
 r:C.r.length=8
 place:0≤C.place∧C.place≤2147483648
 us:C.us.length≤4096
 u: ∀u∈C.us,0≤u∧u<18446744073709551616
 room:1≤C.room∧C.room≤16
 b:(C.b.length:Int)≤C.room
 e: ∀e∈C.b,e.ok
 waits:0≤C.waits∧C.waits≤16
theorem Zdw {u:Int} {i:Ins} (h:decode u=some i):i=ZeX u∧i.op≤22∧JE i=true:=by
 unfold decode at h
 split at h
 ·cases h;rename_i h;exact ⟨rfl,h.2⟩
 ·cases h
theorem JeS {u:Int} (j:0≤u):0≤(ZeX u).op:=Int.emod_nonneg _ (by decide)
theorem JfP {L a l w:Int} (h:addrOf L a=some (l,w)) (j:0≤a):0≤l∧l<L∧0≤w∧w<8:=by
 unfold addrOf at h
 split at h
 ·simp only [Option.some.injEq,Prod.mk.injEq] at h;omega
 ·cases h
theorem ZgJ (b imm:Int):0≤Xh7 b imm:=by unfold Xh7;exact Int.emod_nonneg _ (by decide)
theorem Cr.at_rng {C:Cr} {L:Int} {i:Ins} {l w:Int} (h:C.at L i=some (l,w)):0≤l∧l<L∧0≤w∧w<8:=JfP h (ZgJ _ _)
end
section
theorem Cr.ok.setR {C:Cr} (h:C.ok) (k v:Int):(C.setR k v).ok:=⟨by simp [Cr.setR,h.r],h.place,h.us,h.u,h.room,h.b,h.e,h.waits⟩
theorem Cr.ok.next {C:Cr} (h:C.ok) (hp:C.place<4096):C.next.ok:=⟨h.r,by have:=h.place;show 0≤C.place+1∧C.place+1≤2147483648;omega,h.us,h.u,h.room,h.b,h.e,h.waits⟩
theorem Cr.ok.go {C:Cr} (h:C.ok) {p:Int} (hp:0≤p∧p≤2147483648):{ C with place:=p }.ok:=⟨h.r,hp,h.us,h.u,h.room,h.b,h.e,h.waits⟩
theorem Cr.ok.stop {C:Cr} (h:C.ok):{ C with runs:=false }.ok:=⟨h.r,h.place,h.us,h.u,h.room,h.b,h.e,h.waits⟩
theorem Cr.ok.pop {C:Cr} (h:C.ok):C.pop.ok:=⟨h.r,h.place,h.us,h.u,h.room,by have:=h.b;simp only [Cr.pop,List.length_tail];omega,λe he=>h.e e (List.mem_of_mem_tail he),h.waits⟩
theorem Cr.ok.put {C:Cr} (h:C.ok) {e:SE} (he:e.ok) (j:(C.b.length:Int)<C.room):{ C with b:=C.b++[e] }.ok:=
 ⟨h.r,h.place,h.us,h.u,h.room,by simp only [List.length_append,List.length_singleton];omega,λx hx=>by rcases List.mem_append.1 hx with hx|hx;exact h.e x hx;rw [List.mem_singleton] at hx;rw [hx];exact he,h.waits⟩
theorem Cr.ok.wait {C:Cr} (h:C.ok) {w:Int} (j:0≤w∧w≤16):{ C with waits:=w }.ok:=⟨h.r,h.place,h.us,h.u,h.room,h.b,h.e,j⟩
theorem Cr.entry_ok {C:Cr} {i:Ins} {l w:Int} (E:i.op=9∨i.op=12∨i.op=13∨i.op=14) (j:0≤l∧l<64) (I:0≤w∧w<8):(C.entry i l w).ok:=by
 unfold Cr.entry
 split
 ·exact ⟨j,I,.inl rfl⟩
 ·exact ⟨j,by show (0:Int)≤0∧(0:Int)<8;decide,by rcases E with h|h;contradiction;exact .inr h⟩
theorem Cr.entry_good {C:Cr} {i:Ins} {l w:Int} (j:i.op=9∨i.op=12∨i.op=13∨i.op=14) (I:0≤l∧l<64) (E:0≤w∧w<8):(C.entry i l w).good=true:=by
 unfold Cr.entry SE.good
 split
 ·simp;omega
 ·simp;omega
section
variable {C:Cr} {S:Sys} {k:Nat}
theorem Cr.ok.loadX (h:C.ok) (hp:C.place<4096) (i:Ins):(C.loadX S i).1.ok:=by
 unfold Cr.loadX
 split
 ·exact h.stop
 ·split
  ·exact (h.setR _ _).next hp
  ·split
   ·exact (h.setR _ _).next hp
   ·exact h
theorem Cr.ok.putX (h:C.ok) (hp:C.place<4096) (E:S.c.lines≤64) {i:Ins} (j:i.op=9∨i.op=12∨i.op=13∨i.op=14):(C.putX S i).1.ok:=by
 unfold Cr.putX
 split
 ·exact h.stop
 ·rename_i l w e
  have:=Cr.at_rng e
  split
  ·exact h
  ·exact (h.put (Cr.entry_ok j (by omega) (by omega)) (by omega)).next hp
theorem Cr.ok.lockX (h:C.ok) (hp:C.place<4096) (i:Ins):(C.lockX S i).1.ok:=by
 unfold Cr.lockX
 split
 ·exact h.stop
 ·split
  ·exact h
  ·split
   ·exact h
   ·split
    ·exact (h.setR _ _).next hp
    ·split<;>exact (h.setR _ _).next hp
theorem Cr.ok.doX (h:C.ok) (hp:C.place<4096) (O:S.c.lines≤64) {i:Ins} (E:JE i=true):(C.doX S i).1.ok:=by
 unfold Cr.doX
 split
 ·exact h.next hp
 split
 ·exact (h.setR _ _).next hp
 split
 ·exact h.loadX hp i
 split
 ·rename_i J;exact h.putX hp O J
 split
 ·unfold Cr.fenceX
  split
  ·exact h.next hp
  ·exact h
 split
 ·exact h.lockX hp i
 split
 ·exact h.next hp
 split
 ·exact h.stop
 ·show (C.reckonX i).ok
  unfold Cr.reckonX
  split
  ·exact (h.setR _ _).next hp
  ·split
   ·rename_i j
    refine h.go ?_
    have U:=Xbm E
    unfold Zek at j
    have V:17≤i.op∧i.op≤20:=by
     split at j;omega
     split at j;omega
     split at j;omega
     split at j;omega
     cases j
    have Q:Qbq i.op 73=true:=by
     have:i.op=17∨i.op=18∨i.op=19∨i.op=20:=by omega
     rcases this with e|e|e|e<;>rw [e]<;>decide
    have I:XbR i=true:=by unfold JE at E;simp only [Bool.and_eq_true] at E;exact E.2.2.2
    unfold XbR at I
    rw [if_pos Q] at I
    simp only [Bool.and_eq_true,Bool.or_eq_true,decide_eq_true_eq,Bool.not_eq_true',decide_eq_false_iff_not] at I
    omega
   ·exact h.next hp
theorem Cr.ok.exec (h:C.ok) (j:S.c.lines≤64):(C.exec S).1.ok:=by
 unfold Cr.exec
 split
 ·exact h
 ·split
  ·exact h.stop
  ·rename_i u e
   have hp:C.place<4096:=by
    have:=(List.getElem?_eq_some_iff.1 e).1
    have:=h.us
    have:=h.place
    omega
   split
   ·exact h.stop
   ·rename_i i hd
    exact h.doX hp j (Zdw hd).2.2
theorem Cr.ok.flushX (h:C.ok) (line kind:Int):(C.flushX S line kind).1.1.ok:=by
 unfold Cr.flushX
 split
 ·exact h
 ·split
  ·exact h
  ·have:=h.waits;exact h.wait (by omega)
theorem Cr.ok.sent {e:SE} {t:List SE} {w:Int} (h:C.ok) (hb:C.b=e::t) (j:0≤w∧w≤16):Cr.ok { C with waits:=w,b:={ e with sent:=true }::t }:=by
 have he:=h.e e (by rw [hb];exact List.mem_cons_self ..)
 refine ⟨h.r,h.place,h.us,h.u,h.room,by have:=h.b;rw [hb] at this;exact this,λx hx=> ?_,j⟩
 rcases List.mem_cons.1 hx with rfl|hx
 ·exact ⟨he.line,he.word,he.kind⟩
 ·exact h.e x (by rw [hb];exact List.mem_cons_of_mem _ hx)
theorem Qef (C:Cr) (S:Sys) (line kind:Int): ∃w,(C.flushX S line kind).1.1={ C with waits:=w }:=by
 unfold Cr.flushX
 split
 ·exact ⟨C.waits,rfl⟩
 ·split
  ·exact ⟨C.waits,rfl⟩
  ·exact ⟨C.waits+1,rfl⟩
theorem Cr.ok.drain (h:C.ok):(C.drain S).1.ok:=by
 unfold Cr.drain
 split
 ·exact h
 ·rename_i e t hb
  split
  ·split
   ·exact h.pop
   ·exact h
  split
  ·split
   ·exact (h.flushX _ _).pop
   ·exact h.flushX _ _
  split
  ·split
   ·exact (h.flushX _ _).pop
   ·exact h.flushX _ _
  split
  ·split
   ·exact h.pop
   ·exact h
  ·have E:=h.flushX (S:=S) e.line 5
   split
   ·obtain ⟨w,I⟩:=Qef C S e.line 5
    have j:=E.waits
    rw [I] at j ⊢
    exact h.sent hb j
   ·exact E
theorem Cr.ok.hear (h:C.ok) (m:Ms):(C.hear m).1.ok:=by
 unfold Cr.hear
 split
 ·rename_i hm
  have:=h.waits
  exact h.wait (by omega)
 ·exact h
theorem Xdq {id room:Int} {us:List Int} (j:1≤room∧room≤16) (E:us.length≤4096) (I: ∀u∈us,0≤u∧u<18446744073709551616):(Xa3 id room us).ok:=
 ⟨rfl,by show (0:Int)≤0∧(0:Int)≤2147483648;decide,E,I,j,by show ((0:Nat):Int)≤room;omega,λe he=>(List.not_mem_nil he).elim,by show (0:Int)≤0∧(0:Int)≤16;decide⟩
end
section
variable {C:Cr} {S:Sys} {k:Nat}
theorem Qfz (S:Sys) (core l w:Int):(S.load core l w).1.c=S.c:=by unfold Sys.load;split;rfl;split<;>rfl
theorem Sys.wf.loadX (h:S.wf k) (j:k<100000) (i:Ins):(C.loadX S i).2.1.wf (k+1):=by
 unfold Cr.loadX
 split
 ·exact h.le (by omega)
 ·split
  ·exact h.le (by omega)
  ·split
   ·exact h.load j _ _ _
   ·exact h.load j _ _ _
theorem Sys.wf.putX (h:S.wf k) (i:Ins):(C.putX S i).2.1.wf k:=by
 unfold Cr.putX
 split
 ·exact h
 ·split<;>exact h
theorem Sys.wf.lockX (h:S.wf k) (j:k+3<100000) (i:Ins):(C.lockX S i).2.1.wf (k+3):=by
 unfold Cr.lockX
 split
 ·exact h.le (by omega)
 ·split
  ·exact h.le (by omega)
  ·split
   ·exact (h.reach (by omega) _ _).le (by omega)
   ·split
    ·exact ((h.reach (by omega) _ _).load (by omega) _ _ _).store (by omega) _ _ _ _
    ·split
     ·exact ((h.reach (by omega) _ _).load (by omega) _ _ _).store (by omega) _ _ _ _
     ·exact ((h.reach (by omega) _ _).load (by omega) _ _ _).le (by omega)
theorem Sys.wf.doX (h:S.wf k) (E:k+3<100000) (i:Ins):(C.doX S i).2.1.wf (k+3):=by
 have j:=h.le (show k≤k+3 by omega)
 unfold Cr.doX
 split
 ·exact j
 split
 ·exact j
 split
 ·exact (h.loadX (by omega) i).le (by omega)
 split
 ·exact (h.putX i).le (by omega)
 split
 ·unfold Cr.fenceX
  split<;>exact j
 split
 ·exact h.lockX E i
 split
 ·exact j
 split
 ·exact j
 ·exact j
theorem Sys.wf.exec (h:S.wf k) (E:k+3<100000):(C.exec S).2.1.wf (k+3):=by
 have j:=h.le (show k≤k+3 by omega)
 unfold Cr.exec
 split
 ·exact j
 ·split
  ·exact j
  ·split
   ·exact j
   ·exact h.doX E _
theorem Sys.wf.flushX (h:S.wf k) (line kind:Int):(C.flushX S line kind).1.2.1.wf k:=by
 unfold Cr.flushX
 split
 ·exact h
 ·split<;>exact h.flush _ _ _
theorem Sys.wf.drainC (h:S.wf k) (I:k<100000):(C.drain S).2.1.wf (k+1):=by
 have E:=h.le (show k≤k+1 by omega)
 have j: ∀l q,(C.flushX S l q).1.2.1.wf (k+1):=λl q=>(h.flushX l q).le (by omega)
 unfold Cr.drain
 split
 ·exact E
 ·split
  ·split<;>exact h.store I _ _ _ _
  split
  ·split<;>exact j _ _
  split
  ·split<;>exact j _ _
  split
  ·split<;>exact E
  ·split<;>exact j _ _
end
end
section
def Ln.nn (l:Ln):Prop:= ∀x∈l.1,0≤x
theorem Zx:zeroL.nn:=by
 intro x hx
 have h:x=0:=by simpa [zeroL] using hx
 omega
theorem Ln.nn.put {l:Ln} (h:l.nn) (w:Nat) {v:Int} (j:0≤v):(l.put w v).nn:=by
 intro x hx
 rcases List.mem_or_eq_of_mem_set (show x∈l.1.set w v from hx) with hx|rfl
 ·exact h x hx
 ·exact j
def Arr.nn (A:Arr):Prop:= ∀s∈A.l,s.data.nn
def MsN (l:List Ms):Prop:= ∀m∈l,m.data.nn
theorem MsN.nil:MsN []:=λ_ h=>nomatch h
theorem MsN.one {m:Ms} (h:m.data.nn):MsN [m]:=λx hx=>by rcases List.mem_singleton.1 hx with rfl;exact h
theorem MsN.app {a b:List Ms} (h:MsN a) (k:MsN b):MsN (a++b):=λx hx=>by rcases List.mem_append.1 hx with hx|hx;exact h x hx;exact k x hx
section
variable {A:Arr}
theorem Arr.nn.put {line:Int} {k:Nat} {t:St} (h:A.nn) (j:t.data.nn):(A.put line k t).nn:=by
 intro s hs
 rcases List.mem_or_eq_of_mem_set (show s∈A.l.set (A.from line+k) t from hs) with hs|rfl
 ·exact h s hs
 ·exact j
theorem Arr.nn.slotAt (h:A.nn) (line:Int) (k:Nat):(A.slotAt line k).data.nn:=by
 unfold Arr.slotAt
 rw [List.getD_eq_getElem?_getD]
 cases e:A.l[A.from line+k]? with
 | none=>exact Zx
 | some s=>exact h s (List.mem_of_getElem? e)
theorem Arr.nn.slot (h:A.nn) (line:Int):(A.slot line).data.nn:=by
 unfold Arr.slot Arr.find
 split
 ·exact Zx
 ·exact h.slotAt _ _
theorem Arr.nn.set (h:A.nn) (line state:Int) {d:Ln} (hd:d.nn):(A.set line state d).2.nn:=by
 unfold Arr.set
 split
 ·exact h
 ·split
  ·exact h
  ·exact Arr.nn.put (A:=A.tick) h hd
theorem Arr.nn.touch (h:A.nn) (line:Int):(A.touch line).nn:=by
 unfold Arr.touch
 split
 ·exact h
 ·exact Arr.nn.put (A:=A.tick) h (h.slotAt _ _)
theorem Arr.nn.drop (h:A.nn) (line:Int):(A.drop line).nn:=by
 unfold Arr.drop
 split
 ·exact h
 ·exact Arr.nn.put h Zx
theorem Xd6 {c:Prop} [Decidable c] {a b:Ln} (j:a.nn) (hb:b.nn):(if c then a else b).nn:=by split;exact j;exact hb
theorem Arr.nn.out (h:A.nn) {s:St} (hs:s.data.nn):MsN (A.out s).1∧(A.out s).2.nn:=⟨MsN.one (m:=XhO s) (Xd6 hs Zx),h.set _ _ hs⟩
theorem Arr.nn.ask (h:A.nn) (line state kind:Int) {d:Ln} (hd:d.nn):MsN (A.ask line state kind d).1∧(A.ask line state kind d).2.nn:=by
 unfold Arr.ask
 split
 ·exact ⟨MsN.nil,h⟩
 ·split
  ·split
   ·exact ⟨MsN.nil,h⟩
   ·exact h.out (h.slot _)
  ·exact ⟨MsN.one Zx,h.set _ _ hd⟩
theorem Arr.nn.load (h:A.nn) (line word:Int):MsN (A.load line word).1∧(A.load line word).2.nn:=by
 unfold Arr.load
 split
 ·exact ⟨MsN.nil,h⟩
 ·split
  ·exact ⟨MsN.nil,h.touch _⟩
  ·exact h.ask _ _ _ Zx
theorem Arr.nn.reach (h:A.nn) (line:Int):MsN (A.reach line).1∧(A.reach line).2.nn:=by
 unfold Arr.reach
 split
 ·exact ⟨MsN.nil,h⟩
 ·split
  ·exact h.ask _ _ _ (h.slot _)
  ·exact h.ask _ _ _ Zx
theorem Arr.nn.store (h:A.nn) (line word:Int) {v:Int} (j:0≤v):MsN (A.store line word v).1∧(A.store line word v).2.nn:=by
 unfold Arr.store
 split
 ·exact ⟨MsN.nil,h⟩
 ·split
  ·exact h.reach _
  ·exact ⟨MsN.nil,h.set _ _ ((h.slot _).put _ j)⟩
theorem Jgq (m:Ms) {s:St} (hs:s.data.nn) (next:Int):MsN (Je1 m s next):=by
 unfold Je1
 split
 ·exact MsN.one (Xd6 hs Zx)
 ·split
  ·exact MsN.one (Xd6 hs Zx)
  ·exact MsN.nil
theorem Arr.nn.hear (h:A.nn) {m:Ms} (hm:m.data.nn):MsN (A.hear m).1∧(A.hear m).2.1.nn:=by
 unfold Arr.hear
 split
 ·exact ⟨MsN.nil,h⟩
 ·split
  ·exact ⟨MsN.nil,h⟩
  ·split
   ·exact ⟨MsN.nil,h⟩
   ·split
    ·exact ⟨Jgq _ (h.slot _) _,h.drop _⟩
    ·exact ⟨Jgq _ (h.slot _) _,h.set _ _ (Xd6 hm (Xd6 Zx (h.slot _)))⟩
theorem Arr.nn.evict (h:A.nn) (line:Int):MsN (A.evict line).1∧(A.evict line).2.1.nn:=by
 unfold Arr.evict
 split
 ·exact ⟨MsN.nil,h⟩
 ·split
  ·exact ⟨MsN.nil,h⟩
  ·exact h.out (h.slot _)
theorem QgI (s w:Nat):(Xfx s w).nn:=by
 intro t j
 rcases List.mem_replicate.1 (show t∈List.replicate (s*w) XaR from j) with ⟨_,rfl⟩
 exact Zx
theorem Arr.nn.loadV (h:A.nn) (line word:Int):0≤A.loadV line word:=by
 unfold Arr.loadV
 split
 ·unfold Jfl
  have:=h.slot line
  generalize (A.slot line).data=d at this
  first
  |(rw [List.getD_eq_getElem?_getD]
    cases e:d.1[word.toNat]? with
    | none=>exact Int.le_refl 0
    | some x=>exact this x (List.mem_of_getElem? e))
 ·exact Int.le_refl 0
end
theorem Xeg {q:List Ms} {m:Ms} (h:MsN q) (hm:m.data.nn):MsN (Qa3 q m).1:=by
 unfold Qa3
 split
 ·exact h
 ·split
  ·exact h
  ·exact h.app (MsN.one hm)
theorem Zc1: ∀{l q:List Ms},MsN q→MsN l→MsN (QY q l)
 | [],q,h,_=>h
 | m::l,q,h,j=>Zc1 (l:=l) (Xeg h (j m (List.mem_cons_self ..))) (λx hx=>j x (List.mem_cons_of_mem _ hx))
def Mov.nn (m:Mov):Prop:=m.e.data.nn∧ ∀s∈m.out,s.m.data.nn
theorem Mov.nn.tell {m:Mov} (h:m.nn) (to kind:Int):(m.tell to kind).nn:=by
 refine ⟨h.1,λs hs=> ?_⟩
 rcases List.mem_append.1 (show s∈m.out++[⟨to,m.said kind⟩] from hs) with hs|hs
 ·exact h.2 s hs
 ·rcases List.mem_singleton.1 hs with rfl
  exact Xd6 h.1 Zx
theorem Mov.nn.tells {kind:Int}: ∀{l:List Int} {m:Mov},m.nn→(m.tells kind l).nn
 | [],m,h=>h
 | to::r,m,h=>Mov.nn.tells (l:=r) (h.tell to kind)
theorem Mov.nn.with {m:Mov} (h:m.nn) {e:Ent} (he:e.data.nn):Mov.nn { m with e:=e }:=⟨he,h.2⟩
theorem Mov.nn.wait {m:Mov} (h:m.nn) (busy by_:Int) (cores:Qdf) (kind:Int):(m.wait busy by_ cores kind).nn:=Mov.nn.tells (h.with h.1)
theorem Mov.nn.own {m:Mov} (h:m.nn) (by_ kind:Int):(m.own by_ kind).nn:=Mov.nn.tell (h.with h.1) _ _
theorem Mov.nn.read {m:Mov} (h:m.nn) (by_:Int):(m.read by_).nn:=Mov.nn.tell (h.with h.1) _ _
theorem Zgr {e:Ent} {x:Ms} (he:e.data.nn) (hx:x.data.nn):(e.take x).data.nn:=by unfold Ent.take;split;exact hx;exact he
theorem Mov.nn.asked {m:Mov} (h:m.nn) (by_:Int) {x:Ms} (hx:x.data.nn):(m.asked by_ x).nn:=by
 unfold Mov.asked
 split
 ·unfold Mov.getS
  split
  ·exact h.wait _ _ _ _
  ·split
   ·exact h.own _ _
   ·exact h.read _
 ·split
  ·unfold Mov.getM
   split
   ·exact h.own _ _
   ·exact h.wait _ _ _ _
  ·split
   ·refine Mov.nn.tell (h.with ?_) _ _
    split
    ·exact Zgr (e:={ m.e with owner:= -1 }) h.1 hx
    ·exact h.1
   ·split
    ·exact h.wait _ _ _ _
    ·exact h.wait _ _ _ _
def Xh9 (l:List Snd):Prop:= ∀s∈l,s.m.data.nn
theorem ZhF {e:Ent} (he:e.data.nn) (by_:Int) {x:Ms} (hx:x.data.nn):(XcJ e by_ x).1.data.nn∧Xh9 (XcJ e by_ x).2.1:=by
 unfold XcJ
 split
 ·exact ⟨Zx,λ_ h=>nomatch h⟩
 ·split
  ·exact ⟨Zx,λ_ h=>nomatch h⟩
  ·split
   ·exact ⟨Zx,λ_ h=>nomatch h⟩
   ·exact Mov.nn.asked (m:=⟨e,x.line,[]⟩) ⟨he,λ_ h=>nomatch h⟩ by_ hx
theorem XgF (e:Ent) (by_:Int) (x:Ms):(e.lose by_ x).data=(Ent.take { e with wait:=e.wait &&& ~~~(Zdh by_) } x).data:=by
 unfold Ent.lose
 simp only
 split<;>split<;>rfl
theorem Qga {e:Ent} (he:e.data.nn) (by_:Int) {x:Ms} (hx:x.data.nn):(e.lose by_ x).data.nn:=by
 rw [XgF]
 exact Zgr (e:={ e with wait:=e.wait &&& ~~~(Zdh by_) }) he hx
theorem Mov.nn.goes {m:Mov} (h:m.nn):m.goes.nn:=by
 unfold Mov.goes
 split
 ·exact Mov.nn.read (m:=m.over) h _
 ·split
  ·exact Mov.nn.own (m:=m.over) h _ _
  ·exact h
theorem XfF {e:Ent} (he:e.data.nn) (by_:Int) {x:Ms} (hx:x.data.nn):(Jz e by_ x).1.data.nn∧Xh9 (Jz e by_ x).2.1:=by
 unfold Jz
 split
 ·exact ⟨Zx,λ_ h=>nomatch h⟩
 ·split
  ·exact ⟨Zx,λ_ h=>nomatch h⟩
  ·split
   ·exact ⟨Qga he _ hx,λ_ h=>nomatch h⟩
   ·exact Mov.nn.goes (m:=⟨e.lose by_ x,x.line,[]⟩) ⟨Qga he _ hx,λ_ h=>nomatch h⟩
theorem Qf5 {e:Ent} (he:e.data.nn):(ZP e).1.data.nn∧Xh9 (ZP e).2.1:=by
 unfold ZP
 split
 ·exact ⟨Zx,λ_ h=>nomatch h⟩
 ·exact Mov.nn.tell (m:=Mov.over ⟨{ e with dirty:=false },0,[]⟩) ⟨he,λ_ h=>nomatch h⟩ _ _
structure Nd.nn (N:Nd):Prop where
 A:N.A.nn
 up:MsN N.up
 ans:MsN N.ans
 dn:MsN N.dn
structure Sys.nn (S:Sys):Prop where
 nd: ∀(i:Nat) N,S.nodes[i]? =some N→N.nn
 dir: ∀e∈S.dir,e.data.nn
 q: ∀e∈S.q,e.data.nn
 mem: ∀l∈S.D.mem,l.nn
section
variable {S:Sys}
theorem Sys.nn.setN (h:S.nn) {i:Nat} {N:Nd} (I:N.nn):(S.setN i N).nn:=by
 refine ⟨λj M e=> ?_,h.dir,h.q,h.mem⟩
 simp only [Sys.setN] at e
 by_cases hj:i=j
 ·subst hj
  have E:=Xg e
  rw [List.length_set] at E
  rw [List.getElem?_set_self E] at e
  cases e;exact I
 ·rw [List.getElem?_set_ne hj] at e
  exact h.nd j M e
theorem Sys.nn.setE (h:S.nn) (i:Nat) {e:Ent} (he:e.data.nn):(S.setE i e).nn:=⟨h.nd,λx hx=>by
 rcases List.mem_or_eq_of_mem_set (show x∈S.dir.set i e from hx) with hx|rfl
 ·exact h.dir x hx
 ·exact he,h.q,h.mem⟩
theorem Sys.nn.ask (h:S.nn) {i:Nat} {N:Nd} (E:S.nodes[i]? =some N) {A':Arr} {ms:List Ms} (hm:MsN ms∧A'.nn):(S.setN i { N with A:=A',up:=QY N.up ms }).nn:=by
 have j:=h.nd i N E
 exact h.setN ⟨hm.2,Zc1 j.up hm.1,j.ans,j.dn⟩
theorem Sys.nn.load (h:S.nn) (core line word:Int):(S.load core line word).1.nn:=by
 unfold Sys.load
 split
 ·exact h
 ·rename_i i N e
  obtain ⟨_,j⟩:=Sys.at_some e
  split
  ·exact h
  ·exact h.ask j ((h.nd i N j).A.load _ _)
theorem Sys.nn.loadV (h:S.nn) (core line word:Int):0≤(S.load core line word).2.1:=by
 unfold Sys.load
 split
 ·exact Int.le_refl 0
 ·rename_i i N e
  obtain ⟨_,j⟩:=Sys.at_some e
  split
  ·exact Int.le_refl 0
  ·exact (h.nd i N j).A.loadV _ _
theorem Sys.nn.store (h:S.nn) (core line word:Int) {v:Int} (E:0≤v):(S.store core line word v).1.nn:=by
 unfold Sys.store
 split
 ·exact h
 ·rename_i i N e
  obtain ⟨_,j⟩:=Sys.at_some e
  split
  ·exact h
  ·exact h.ask j ((h.nd i N j).A.store _ _ E)
theorem Sys.nn.reach (h:S.nn) (core line:Int):(S.reach core line).1.nn:=by
 unfold Sys.reach
 split
 ·exact h
 ·rename_i i N e
  obtain ⟨_,j⟩:=Sys.at_some e
  split
  ·exact h
  ·exact h.ask j ((h.nd i N j).A.reach _)
theorem Sys.nn.evict (h:S.nn) (core line:Int):(S.evict core line).1.nn:=by
 unfold Sys.evict
 split
 ·exact h
 ·rename_i i N e
  obtain ⟨_,j⟩:=Sys.at_some e
  split
  ·exact h
  ·exact h.ask j ((h.nd i N j).A.evict _)
theorem Sys.nn.flush (h:S.nn) (core line kind:Int):(S.flush core line kind).1.nn:=by
 unfold Sys.flush
 split
 ·exact h
 ·rename_i i N e
  obtain ⟨_,E⟩:=Sys.at_some e
  have j:=h.nd i N E
  split
  ·exact h
  ·split
   ·exact h
   ·exact h.setN ⟨j.A,Xeg j.up Zx,j.ans,j.dn⟩
theorem Sys.nn.hear (h:S.nn) (core:Int):(S.hear core).1.nn:=by
 unfold Sys.hear
 split
 ·exact h
 ·rename_i i N e
  obtain ⟨_,I⟩:=Sys.at_some e
  have j:=h.nd i N I
  split
  ·exact h
  ·rename_i m r hq
   have E:=j.A.hear (j.dn m (by rw [hq];simp))
   exact h.setN ⟨E.2,j.up,Zc1 j.ans E.1,λx hx=>j.dn x (by rw [hq];exact List.mem_cons_of_mem _ hx)⟩
theorem Sys.nn.send1 (h:S.nn) (line:Int) {x:Snd} (hx:x.m.data.nn):(S.send1 line x).nn:=by
 unfold Sys.send1
 split
 ·exact h
 ·rename_i i N e
  obtain ⟨_,E⟩:=Sys.at_some e
  have j:=h.nd i N E
  exact h.setN ⟨j.A,j.up,j.ans,Xeg j.dn hx⟩
theorem Sys.nn.sends {line:Int}: ∀{l:List Snd} {S:Sys},S.nn→Xh9 l→(S.sends line l).nn
 | [],S,h,_=>h
 | x::l,S,h,j=>Sys.nn.sends (l:=l) (h.send1 line (j x (List.mem_cons_self ..))) (λy E=>j y (List.mem_cons_of_mem _ E))
theorem Sys.nn.write (h:S.nn) {i:Nat} {e:Ent} (E:S.dir[i]? =some e):(S.write i e).1.nn:=by
 unfold Sys.write
 split
 ·exact h
 ·refine ⟨h.nd,h.dir,?_,h.mem⟩
  intro x hx
  have j:x∈(Zb3 S.q S.D S.c.queue (i:Nat) e.data).1:=hx
  unfold Zb3 at j
  split at j
  ·exact h.q x j
  ·split at j
   ·exact h.q x j
   ·rcases List.mem_append.1 j with j|j
    ·exact h.q x j
    ·rcases List.mem_singleton.1 j with rfl
     exact h.dir e (List.mem_of_getElem? E)
theorem Sys.nn.push (h:S.nn) (line:Int):(S.push line).1.nn:=by
 unfold Sys.push
 split
 ·exact h
 ·rename_i i e he
  obtain ⟨E,j⟩:=Sys.ent_some he
  have hp:=Qf5 (h.dir e (List.mem_of_getElem? j))
  split
  ·exact h
  ·split
   ·exact h.write j
   ·split
    ·exact h.write j
    ·exact Sys.nn.sends ((h.write j).setE _ hp.1) hp.2
theorem Xfm (h:S.nn) (line:Int):(QdV S.q S.D line).nn:=by
 unfold QdV newest
 cases e:S.q.reverse.find? (λe=>decide (e.line=line)) with
 | some x=>exact h.q x (List.mem_reverse.1 (List.mem_of_find?_eq_some e))
 | none=>
  show (S.D.get line).nn
  unfold Dev.get
  split
  ·rw [List.getD_eq_getElem?_getD]
   cases e:S.D.mem[line.toNat]? with
   | none=>exact Zx
   | some l=>exact h.mem l (List.mem_of_getElem? e)
  ·exact Zx
theorem Jhm {D:Dev} (h: ∀l∈D.mem,l.nn) (line:Int) {x:Ln} (hx:x.nn): ∀l∈(D.put line x).mem,l.nn:=by
 unfold Dev.put
 split
 ·intro l j
  rcases List.mem_or_eq_of_mem_set (show l∈D.mem.set line.toNat x from j) with j|rfl
  ·exact h l j
  ·exact hx
 ·exact h
theorem Sys.nn.drain (h:S.nn) (line:Int):(S.drain line).1.nn:=by
 unfold Sys.drain
 split
 ·exact h
 ·unfold Zbi
  split
  ·exact h
  ·rename_i j E
   refine ⟨h.nd,h.dir,λx hx=>h.q x (List.mem_of_mem_eraseIdx hx),Jhm h.mem _ ?_⟩
   rw [List.getD_eq_getElem?_getD]
   cases e:S.q[j]? with
   | none=>exact Zx
   | some x=>exact h.q x (List.mem_of_getElem? e)
theorem Sys.nn.here (h:S.nn) {i:Nat} {e:Ent} (he:e.data.nn):(S.here i e).nn∧(S.got i e).data.nn:=by
 unfold Sys.here Sys.got
 split
 ·exact ⟨h,he⟩
 ·exact ⟨h.setE _ (Xfm h _),Xfm h _⟩
theorem Sys.nn.up (h:S.nn) (core:Int):(S.up core).1.nn:=by
 unfold Sys.up
 split
 ·exact h
 ·rename_i i N e
  obtain ⟨_,O⟩:=Sys.at_some e
  have j:=h.nd i N O
  split
  ·exact h
  ·rename_i m r hq
   have hm:=j.up m (by rw [hq];simp)
   split
   ·exact h
   ·rename_i k e2 E
    obtain ⟨_,Q⟩:=Sys.ent_some E
    have U:MsN r:=λx hx=>j.up x (by rw [hq];exact List.mem_cons_of_mem _ hx)
    have I:=h.here (i:=k) (h.dir e2 (List.mem_of_getElem? Q))
    have J:=ZhF I.2 core hm
    split
    ·exact h
    ·split
     ·exact I.1
     ·exact Sys.nn.sends (Sys.nn.setE (I.1.setN (N:={ N with up:=r }) ⟨j.A,U,j.ans,j.dn⟩) _ J.1) J.2
theorem Sys.nn.answer (h:S.nn) (core:Int):(S.answer core).1.nn:=by
 unfold Sys.answer
 split
 ·exact h
 ·rename_i i N e
  obtain ⟨_,O⟩:=Sys.at_some e
  have j:=h.nd i N O
  split
  ·exact h
  ·rename_i m r hq
   have hm:=j.ans m (by rw [hq];simp)
   have I:(S.setN i { N with ans:=r }).nn:=h.setN ⟨j.A,j.up,λx hx=>j.ans x (by rw [hq];exact List.mem_cons_of_mem _ hx),j.dn⟩
   split
   ·exact h
   ·rename_i k e2 E
    obtain ⟨_,Q⟩:=Sys.ent_some E
    have J:=XfF (h.dir e2 (List.mem_of_getElem? Q)) core hm
    split
    ·exact I
    ·exact Sys.nn.sends (I.setE _ J.1) J.2
theorem Qgs (c:Cfg):(JbV c []).nn:=by
 refine ⟨λi N j=> ?_,λe he=> ?_,(λe he=>nomatch he),λl E=> ?_⟩
 ·have:N=nd0 c:=by
   obtain ⟨_,h⟩:=List.getElem?_eq_some_iff.1 j
   rw [show (JbV c []).nodes=List.replicate c.cores.toNat (nd0 c) from rfl] at j
   exact (List.mem_replicate.1 (List.mem_of_getElem? j)).2
  subst this
  exact ⟨QgI _ _,MsN.nil,MsN.nil,MsN.nil⟩
 ·rw [(List.mem_replicate.1 (show e∈List.replicate c.lines.toNat ZK from he)).2];exact Zx
 ·have:l∈List.replicate c.lines.toNat zeroL:=E
  rw [(List.mem_replicate.1 this).2];exact Zx
end
end
section
structure Cr.nn (C:Cr):Prop where
 r: ∀x∈C.r,0≤x
 b: ∀e∈C.b,0≤e.val
section
variable {C:Cr} {S:Sys}
theorem Cr.nn.reg (h:C.nn) (k:Int):0≤C.reg k:=by
 unfold Cr.reg
 cases e:C.r[k.toNat]? with
 | none=>exact Int.le_refl 0
 | some x=>exact h.r x (List.mem_of_getElem? e)
theorem Cr.nn.setR (h:C.nn) (k:Int) {v:Int} (j:0≤v):(C.setR k v).nn:=⟨λx hx=>by
 rcases List.mem_or_eq_of_mem_set (show x∈C.r.set k.toNat v from hx) with hx|rfl
 ·exact h.r x hx
 ·exact j,h.b⟩
theorem Cr.nn.next (h:C.nn):C.next.nn:=⟨h.r,h.b⟩
theorem QbS (x:Int):0≤IntKind.u64.wrap x:=Int.emod_nonneg _ (by decide)
theorem XhJ (op:Int) {b:Int} (hb:0≤b) (c:Int):0≤ZhO op b c:=by
 unfold ZhO
 split
 ·exact QbS _
 split
 ·exact QbS _
 split
 ·exact QbS _
 split
 ·exact QbS _
 split
 ·exact QbS _
 ·have j:(0:Int)≤2^(min (c.tmod 64).toNat 64):=Int.pow_nonneg (by decide)
  rw [Int.fdiv_eq_ediv_of_nonneg _ j]
  exact Int.ediv_nonneg hb j
theorem Qg3 {b:List SE} (h: ∀e∈b,0≤e.val) {l w v:Int} (j:ZcW b l w=some v):0≤v:=by
 unfold ZcW at j
 cases e:b.reverse.find? (JfT l w) with
 | none=>rw [e] at j;cases j
 | some x=>
  rw [e] at j
  cases j
  exact h x (List.mem_reverse.1 (List.mem_of_find?_eq_some e))
theorem Cr.nn.doX (h:C.nn) (j:S.nn) (i:Ins):(C.doX S i).1.nn∧(C.doX S i).2.1.nn:=by
 unfold Cr.doX
 split
 ·exact ⟨h.next,j⟩
 split
 ·exact ⟨(h.setR _ (QbS _)).next,j⟩
 split
 ·unfold Cr.loadX
  split
  ·exact ⟨⟨h.r,h.b⟩,j⟩
  ·split
   ·rename_i v J
    exact ⟨(h.setR _ (Qg3 h.b J)).next,j⟩
   ·split
    ·exact ⟨(h.setR _ (j.loadV _ _ _)).next,j.load _ _ _⟩
    ·exact ⟨h,j.load _ _ _⟩
 split
 ·unfold Cr.putX
  split
  ·exact ⟨⟨h.r,h.b⟩,j⟩
  ·split
   ·exact ⟨h,j⟩
   ·refine ⟨⟨h.r,λe he=> ?_⟩,j⟩
    rcases List.mem_append.1 (show e∈C.b++[C.entry i _ _] from he) with he|he
    ·exact h.b e he
    ·rcases List.mem_singleton.1 he with rfl
     unfold Cr.entry
     split
     ·exact h.reg _
     ·exact Int.le_refl 0
 split
 ·unfold Cr.fenceX
  split
  ·exact ⟨h.next,j⟩
  ·exact ⟨h,j⟩
 split
 ·unfold Cr.lockX
  split
  ·exact ⟨⟨h.r,h.b⟩,j⟩
  ·rename_i l w O
   have E:=j.reach C.id
   split
   ·exact ⟨h,j⟩
   ·split
    ·exact ⟨h,E _⟩
    ·have I:=(E l).load C.id
     split
     ·exact ⟨(h.setR _ ((E _).loadV _ _ _)).next,(I _ _).store _ _ _ (QbS _)⟩
     ·split
      ·exact ⟨(h.setR _ ((E _).loadV _ _ _)).next,(I _ _).store _ _ _ (h.reg _)⟩
      ·exact ⟨(h.setR _ ((E _).loadV _ _ _)).next,I _ _⟩
 split
 ·exact ⟨h.next,j⟩
 split
 ·exact ⟨⟨h.r,h.b⟩,j⟩
 ·refine ⟨?_,j⟩
  show (C.reckonX i).nn
  unfold Cr.reckonX
  split
  ·exact (h.setR _ (XhJ _ (h.reg _) _)).next
  ·split
   ·exact ⟨h.r,h.b⟩
   ·exact h.next
theorem Cr.nn.exec (h:C.nn) (j:S.nn):(C.exec S).1.nn∧(C.exec S).2.1.nn:=by
 unfold Cr.exec
 split
 ·exact ⟨h,j⟩
 ·split
  ·exact ⟨⟨h.r,h.b⟩,j⟩
  ·split
   ·exact ⟨⟨h.r,h.b⟩,j⟩
   ·exact h.doX j _
theorem Cr.nn.flushX (h:C.nn) (j:S.nn) (line kind:Int):(C.flushX S line kind).1.1.nn∧(C.flushX S line kind).1.2.1.nn:=by
 unfold Cr.flushX
 split
 ·exact ⟨h,j⟩
 ·split
  ·exact ⟨h,j.flush _ _ _⟩
  ·exact ⟨⟨h.r,h.b⟩,j.flush _ _ _⟩
theorem Cr.nn.pop (h:C.nn):C.pop.nn:=⟨h.r,λe he=>h.b e (List.mem_of_mem_tail he)⟩
theorem Cr.nn.drain (h:C.nn) (E:S.nn):(C.drain S).1.nn∧(C.drain S).2.1.nn:=by
 have j:=h.flushX E
 unfold Cr.drain
 split
 ·exact ⟨h,E⟩
 ·rename_i e t hb
  have he:=h.b e (by rw [hb];exact List.mem_cons_self ..)
  split
  ·split
   ·exact ⟨h.pop,E.store _ _ _ he⟩
   ·exact ⟨h,E.store _ _ _ he⟩
  split
  ·split
   ·exact ⟨(j _ _).1.pop,(j _ _).2⟩
   ·exact j _ _
  split
  ·split
   ·exact ⟨(j _ _).1.pop,(j _ _).2⟩
   ·exact j _ _
  split
  ·split
   ·exact ⟨h.pop,E⟩
   ·exact ⟨h,E⟩
  ·split
   ·refine ⟨⟨(j _ _).1.r,λx hx=> ?_⟩,(j _ _).2⟩
    rcases List.mem_cons.1 hx with rfl|hx
    ·exact he
    ·exact h.b x (by rw [hb];exact List.mem_cons_of_mem _ hx)
   ·exact j _ _
theorem Cr.nn.hear (h:C.nn) (m:Ms):(C.hear m).1.nn:=by
 unfold Cr.hear
 split
 ·exact ⟨h.r,h.b⟩
 ·exact h
theorem Jdp (id room:Int) (us:List Int):(Xa3 id room us).nn:=⟨λx hx=>by
 have:x=0:=by simpa [Xa3] using hx
 omega,λe he=>(List.not_mem_nil he).elim⟩
end
end
section
theorem Qip (x:Int):IntKind.i64.wrap x=(if 9223372036854775808≤x%18446744073709551616 then x%18446744073709551616-18446744073709551616 else x%18446744073709551616):=by
 have e:IntKind.i64.wrap x=(if decide (x%18446744073709551616≥9223372036854775808)=true then x%18446744073709551616-18446744073709551616 else x%18446744073709551616):=rfl
 rw [e];simp only [decide_eq_true_eq]
theorem Qg9 {i:Ins} (J:0≤i.op) (O:i.op≤22) (I:0≤i.a∧i.a≤7) (hb:0≤i.b∧i.b≤7) (hc:0≤i.c∧i.c≤7):
  (-2147483648≤i.imm∧i.imm≤2147483647→ZeX (ZdU i)=i)∧ZdU i%4294967296/1048576=0∧0≤ZdU i∧ZdU i<18446744073709551616:=by
 obtain ⟨op,a,b,c,imm⟩:=i
 simp only at J O I hb hc
 have Q:0≤imm%4294967296∧imm%4294967296<4294967296:=by omega
 have j:ZdU ⟨op,a,b,c,imm⟩=op+a*256+b*4096+c*65536+(imm%4294967296)*4294967296:=rfl
 refine ⟨λE=> ?_,?_,?_,?_⟩
 ·simp only at E
  unfold ZeX
  rw [Qip,j]
  congr 1
  ·omega
  ·omega
  ·omega
  ·omega
  ·split<;>omega
 ·rw [j];omega
 ·rw [j];omega
 ·rw [j];omega
theorem Zfc {i:Ins} (O:0≤i.op) (j:i.op≤22) (E:JE i=true):decode (ZdU i)=some i∧0≤ZdU i∧ZdU i<18446744073709551616:=by
 obtain ⟨J,hb,hc,I⟩:=Xbm E
 obtain ⟨e1,e2,e3⟩:=Qg9 O j J hb hc
 refine ⟨?_,e3⟩
 unfold decode
 rw [e1 I,if_pos ⟨e2,j,E⟩]
def Sys.pd (S:Sys) (k:Int):Sys:=((S.push k).1.drain k).1
def pd6 (S:Sys):Sys:=(((((S.pd 0).pd 1).pd 2).pd 3).pd 4).pd 5
def XfA (C:Cr) (H:Sys×Ms×Int) (l:List Evt):Res:=((C.hear H.2.1).1,pd6 H.1,l++(C.hear H.2.1).2)
def Zfl (D:Res) (l:List Evt):Res:=XfA D.1 (((D.2.1.up 0).1.answer 0).1.hear 0) (l++D.2.2)
def Xfr (E:Res):Res:=Zfl (E.1.drain E.2.1) E.2.2
def XgJ (C:Cr) (S:Sys):Res:=Xfr (C.exec S)
structure CSok (C:Cr) (S:Sys) (k:Nat):Prop where
 ok:C.ok
 cn:C.nn
 wf:S.wf k
 sn:S.nn
section
variable {C:Cr} {S:Sys} {k:Nat}
theorem CSok.lines (h:CSok C S k):S.c.lines≤64:=by have:=h.wf.c.lines;omega
theorem CSok.exec (h:CSok C S k) (j:k+3<100000):CSok (C.exec S).1 (C.exec S).2.1 (k+3):=⟨h.ok.exec h.lines,(h.cn.exec h.sn).1,h.wf.exec j,(h.cn.exec h.sn).2⟩
theorem CSok.drain (h:CSok C S k) (j:k<100000):CSok (C.drain S).1 (C.drain S).2.1 (k+1):=⟨h.ok.drain,(h.cn.drain h.sn).1,h.wf.drainC j,(h.cn.drain h.sn).2⟩
theorem CSok.up (h:CSok C S k) (i:Int):CSok C (S.up i).1 k:=⟨h.ok,h.cn,h.wf.up i,h.sn.up i⟩
theorem CSok.answer (h:CSok C S k) (i:Int):CSok C (S.answer i).1 k:=⟨h.ok,h.cn,h.wf.answer i,h.sn.answer i⟩
theorem CSok.hear (h:CSok C S k) (j:k<100000) (i:Int):CSok C (S.hear i).1 (k+1):=⟨h.ok,h.cn,h.wf.hear j i,h.sn.hear i⟩
theorem CSok.hearC (h:CSok C S k) (m:Ms):CSok (C.hear m).1 S k:=⟨h.ok.hear m,h.cn.hear m,h.wf,h.sn⟩
theorem CSok.push (h:CSok C S k) (i:Int):CSok C (S.push i).1 k:=⟨h.ok,h.cn,h.wf.push i,h.sn.push i⟩
theorem CSok.drainS (h:CSok C S k) (i:Int):CSok C (S.drain i).1 k:=⟨h.ok,h.cn,h.wf.drain i,h.sn.drain i⟩
theorem CSok.pd (h:CSok C S k) (i:Int):CSok C (S.pd i) k:=(h.push i).drainS i
theorem CSok.pd6 (h:CSok C S k):CSok C (pd6 S) k:=(((((h.pd 0).pd 1).pd 2).pd 3).pd 4).pd 5
theorem CSok.r3 {H:Sys×Ms×Int} {l:List Evt} (h:CSok C H.1 k):CSok (XfA C H l).1 (XfA C H l).2.1 k:=by simp only [XfA];exact (h.hearC H.2.1).pd6
theorem CSok.r2 {D:Res} {l:List Evt} (h:CSok D.1 D.2.1 k) (j:k<100000):CSok (Zfl D l).1 (Zfl D l).2.1 (k+1):=by simp only [Zfl];exact CSok.r3 (((h.up 0).answer 0).hear j 0)
theorem CSok.r1 {E:Res} (h:CSok E.1 E.2.1 k) (j:k+1<100000):CSok (Xfr E).1 (Xfr E).2.1 (k+1+1):=by simp only [Xfr];exact CSok.r2 (h.drain (by omega)) j
theorem CSok.round (h:CSok C S k) (j:k+5<100000):CSok (XgJ C S).1 (XgJ C S).2.1 (k+5):=by simp only [XgJ];exact CSok.r1 (h.exec (by omega)) (by omega)
theorem CSok.new {id room:Int} {us:List Int} {c:Cfg} (hc:c.good) (j:1≤room∧room≤16) (E:us.length≤4096) (I: ∀u∈us,0≤u∧u<18446744073709551616) (k:Nat):CSok (Xa3 id room us) (JbV c []) k:=
 ⟨Xdq j E I,Jdp _ _ _,XeE hc (.inl rfl) k,Qgs c⟩
end
end
section
section
variable {C:Cr} {S:Sys}
theorem QgY (C:Cr) (S:Sys) (i:Ins):(C.doX S i).1.room=C.room∧(C.doX S i).1.id=C.id∧(C.doX S i).1.us=C.us:=by
 unfold Cr.doX
 split
 ·exact ⟨rfl,rfl,rfl⟩
 split
 ·exact ⟨rfl,rfl,rfl⟩
 split
 ·unfold Cr.loadX
  split
  ·exact ⟨rfl,rfl,rfl⟩
  ·split
   ·exact ⟨rfl,rfl,rfl⟩
   ·split<;>exact ⟨rfl,rfl,rfl⟩
 split
 ·unfold Cr.putX
  split
  ·exact ⟨rfl,rfl,rfl⟩
  ·split<;>exact ⟨rfl,rfl,rfl⟩
 split
 ·unfold Cr.fenceX
  split<;>exact ⟨rfl,rfl,rfl⟩
 split
 ·unfold Cr.lockX
  split
  ·exact ⟨rfl,rfl,rfl⟩
  ·split
   ·exact ⟨rfl,rfl,rfl⟩
   ·split
    ·exact ⟨rfl,rfl,rfl⟩
    ·split
     ·exact ⟨rfl,rfl,rfl⟩
     ·split<;>exact ⟨rfl,rfl,rfl⟩
 split
 ·exact ⟨rfl,rfl,rfl⟩
 split
 ·exact ⟨rfl,rfl,rfl⟩
 ·show (C.reckonX i).room=_∧(C.reckonX i).id=_∧(C.reckonX i).us=_
  unfold Cr.reckonX
  split
  ·exact ⟨rfl,rfl,rfl⟩
  ·split<;>exact ⟨rfl,rfl,rfl⟩
theorem Jev (C:Cr) (S:Sys):(C.exec S).1.room=C.room∧(C.exec S).1.id=C.id∧(C.exec S).1.us=C.us:=by
 unfold Cr.exec
 split
 ·exact ⟨rfl,rfl,rfl⟩
 ·split
  ·exact ⟨rfl,rfl,rfl⟩
  ·split
   ·exact ⟨rfl,rfl,rfl⟩
   ·exact QgY _ _ _
theorem ZcG (C:Cr) (S:Sys) (l q:Int):(C.flushX S l q).1.1.room=C.room∧(C.flushX S l q).1.1.id=C.id∧(C.flushX S l q).1.1.us=C.us:=by
 obtain ⟨w,h⟩:=Qef C S l q
 rw [h];exact ⟨rfl,rfl,rfl⟩
theorem Xeb (C:Cr) (S:Sys):(C.drain S).1.room=C.room∧(C.drain S).1.id=C.id∧(C.drain S).1.us=C.us:=by
 unfold Cr.drain
 split
 ·exact ⟨rfl,rfl,rfl⟩
 ·split
  ·split<;>exact ⟨rfl,rfl,rfl⟩
  split
  ·split<;>exact ZcG _ _ _ _
  split
  ·split<;>exact ZcG _ _ _ _
  split
  ·split<;>exact ⟨rfl,rfl,rfl⟩
  ·split<;>exact ZcG _ _ _ _
theorem XeT (C:Cr) (m:Ms):(C.hear m).1.room=C.room∧(C.hear m).1.id=C.id∧(C.hear m).1.us=C.us:=by
 unfold Cr.hear
 split<;>exact ⟨rfl,rfl,rfl⟩
end
structure Xik where
 kind:Int
 line:Int
 val:Int
 m:Ms
def Xhw (x:Xik) (C:Cr) (S:Sys):Cr×Sys:=
 if x.kind=0 then ((C.exec S).1,(C.exec S).2.1) else if x.kind=1 then ((C.drain S).1,(C.drain S).2.1) else if x.kind=2 then (C,(S.up 0).1) else if x.kind=3 then (C,(S.answer 0).1)
 else if x.kind=4 then ((C.hear (S.hear 0).2.1).1,(S.hear 0).1) else if x.kind=5 then (C,(S.push x.line).1) else (C,S)
theorem CSok.step {C:Cr} {S:Sys} {k:Nat} (h:CSok C S k) (j:k+3<100000) (x:Xik):CSok (Xhw x C S).1 (Xhw x C S).2 (k+3):=by
 have le: ∀{C:Cr} {S:Sys} {k k':Nat},CSok C S k→k≤k'→CSok C S k':=λh j=>⟨h.ok,h.cn,h.wf.le j,h.sn⟩
 unfold Xhw
 split
 ·exact h.exec j
 split
 ·exact le (h.drain (by omega)) (by omega)
 split
 ·exact le (h.up 0) (by omega)
 split
 ·exact le (h.answer 0) (by omega)
 split
 ·exact le ((h.hear (by omega) 0).hearC _) (by omega)
 split
 ·exact le (h.push _) (by omega)
 ·exact le h (by omega)
end
section
variable {g:G} {n:Nat} {T:Type}
structure CW where
 lc:Nat
 lp:Nat
 lb:Nat
def CW.mem (w:CW) (l:Nat):Prop:=l=w.lc∨l=w.lp∨l=w.lb
instance (w:CW) (l:Nat):Decidable (w.mem l):=by unfold CW.mem;infer_instance
def un (w:CW) (o:Col T) (g:G):G:=λl=>if w.mem l then none else unc o g l
theorem ZhX (w:CW) (o:Col T) (g:G):Sub (un w o g) (unc o g):=λl=>by
 unfold un;split
 ·exact .inl rfl
 ·exact .inr rfl
theorem JdJ {w:CW} {o o':Col T} {g g':G} (h:Sub (unc o g) (unc o' g')):Sub (un w o g) (un w o' g'):=λl=>by
 unfold un;split
 ·exact .inl rfl
 ·exact h l
theorem Xbv {w:CW} {o:Col T} {l:Nat} {b:Blk} (h:un w o g l=some b): ¬w.mem l∧o l=none∧g l=some b:=by
 unfold un at h
 split at h
 ·cases h
 ·rename_i hm
  unfold unc at h
  split at h
  ·rename_i j;exact ⟨hm,j,h⟩
  ·cases h
theorem ZdN {w:CW} {o:Col T} {l:Nat} (hm: ¬w.mem l) (j:o l=none):un w o g l=g l:=by
 unfold un;rw [if_neg hm,Zp j]
theorem Qhn {w:CW} {o:Col T} {l:Nat} (hm:w.mem l) (b:Option Blk):un w o (upd g l b)=un w o g:=by
 funext i
 unfold un
 split
 ·rfl
 ·rename_i h
  unfold unc
  rw [Zd _ _ (λe=>h (by rw [e];exact hm))]
theorem Qeg {F:G} {w:CW} {o:Col T} {l:Nat} (h:Sub F (un w o g)) (j:F l=none) (b:Option Blk):Sub F (un w o (upd g l b)):=λi=>by
 by_cases hi:i=l
 ·subst hi;exact .inl j
 ·rcases h i with h|h
  ·exact .inl h
  ·refine .inr (h.trans ?_)
   unfold un unc
   rw [Zd _ _ hi]
theorem QaX {o o':Col T} {g':G} {l:Nat} {b:Blk} (E:o l=none) (j:g l=some b) (h:Sub (unc o g) (unc o' g')):o' l=none∧g' l=some b:=by
 have:=h.live (show unc o g l=some b by rw [Zp E];exact j)
 unfold unc at this
 split at this
 ·rename_i e;exact ⟨e,this⟩
 ·cases this
def OutH {α:Type} (enc:α→List Value) (z:Nat) (F:G) (N:List Nat) (o:Col T) (g:G) (v:Value) (xs:List α):Prop:=
 (v= .slice none 0 0∧xs=[])∨ ∃l off cs,v= .slice (some ⟨l,off,none⟩) xs.length (LC+z)∧o l=none∧F l=none∧l∉N∧g l=some (.cells cs (.loose z))∧off+xs.length*z≤cs.length∧(cs.drop off).take (xs.length*z)=(xs.map enc).flatten
section
variable {α:Type} {enc:α→List Value} {z:Nat} {F:G} {N:List Nat} {o:Col T} {v:Value} {xs:List α}
theorem OutH.nil:OutH enc z F N o g (.slice none 0 0) ([]:List α):= .inl ⟨rfl,rfl⟩
theorem OutH.sl (I: ∀x,(enc x).length=z) (h:OutH enc z F N o g v xs):Sl enc z (unc o g) v xs:=by
 rcases h with ⟨rfl,rfl⟩|⟨l,off,cs,rfl,J,_,_,j,E,he⟩
 ·exact Sl.nil
 ·exact ⟨_,_,rfl,Xh enc z I xs,.inr ⟨l,off,rfl⟩,λ_=>⟨l,off,cs,_,rfl,by rw [Zp J];exact j,E,he⟩⟩
theorem OutH.keep {o':Col T} {g':G} (h:OutH enc z F N o g v xs) (k: ∀l b,l∉N→o l=none→g l=some b→o' l=none∧g' l=some b):OutH enc z F N o' g' v xs:=by
 rcases h with h|⟨l,off,cs,rfl,U,O,j,I,J,he⟩
 ·exact .inl h
 ·obtain ⟨E,Q⟩:=k l _ j U I
  exact .inr ⟨l,off,cs,rfl,E,O,j,Q,J,he⟩
theorem OutH.unc {o':Col T} {g':G} (h:OutH enc z F N o g v xs) (k:Sub (unc o g) (unc o' g')):OutH enc z F N o' g' v xs:=h.keep λ_ _ _ E j=>QaX E j k
theorem OutH.upd {l:Nat} {b:Option Blk} (h:OutH enc z F N o g v xs) (I:l∈N):OutH enc z F N o (upd g l b) v xs:=
 h.keep λi _ j J E=>⟨J,by rw [Zd _ _ (λe=>j (by rw [e];exact I))];exact E⟩
theorem OutH.new {l:Nat} {b:Option Blk} (h:OutH enc z F N o g v xs) (E:g l=none):OutH enc z F N o (Abs.upd g l b) v xs:=
 h.keep λi _ J I j=>⟨I,by rw [Zd _ _ (λe=>by rw [e,E] at j;cases j)];exact j⟩
theorem OutH.cellOk (h:OutH enc z F N o g v xs):isCell v=true:=by
 rcases h with ⟨rfl,_⟩|⟨j,off,cs,rfl,_⟩<;>rfl
theorem OutH.append {bytes:Nat} {x:Value} {ys:List α} {K:Cont} (Q: ∀x,(enc x).length=z) (h:OutH enc z F N o g v xs) (hL:Live o g) (hN: ∀l∈N,∃b,g l=some b) (hF: ∀l b,F l=some b→ ∃c,g l=some c) (hx:Sl enc z g x ys) (hc: ∀y,∀v∈enc y,isCell v=true)
  (hb:bytes≤1048576) (V:(xs.length+ys.length)*bytes≤140737488355328) (h2:xs.length+ys.length<140737488355328)
  (Z: ∀v' g' n',(∀l,l∈N∨F l≠none∨o l≠none→g' l=g l)→(∀l b,g l=some b→X4 v≠some l→g' l=some b)→OutH enc z F N o g' v' (xs++ys)→K v' g' n'):Zs v x z bytes g n K:=by
 obtain ⟨ax,cx,rfl⟩: ∃ax cx,x= .slice ax ys.length cx:=by obtain ⟨a,c,e,_⟩:=id hx;exact ⟨a,c,e⟩
 have I: ∀w∈(ys.map enc).flatten,isCell w=true:=by
  intro w hw
  obtain ⟨l,U,hw⟩:=List.mem_flatten.1 hw
  obtain ⟨y,_,rfl⟩:=List.mem_map.1 U
  exact hc y w hw
 by_cases hy:ys.length=0
 ·have aa:ys=[]:=List.eq_nil_of_length_eq_zero hy
  subst aa
  rcases h with ⟨rfl,rfl⟩|⟨l,off,cs,rfl,ho,hf,hn,Y,U,he⟩
  ·refine ⟨hb,by simpa using V,by simpa using h2,Rd.elems hx ⟨I,?_⟩⟩
   rw [if_pos (by unfold LC;decide)]
   refine ⟨rfl,?_⟩
   exact Z _ _ _ (λ_ _=>rfl) (λ_ _ e _=>e) .nil
  ·refine ⟨hb,V,h2,Rd.elems hx ⟨I,?_⟩⟩
   rw [if_neg (by omega)]
   refine ⟨rfl,Za1 Y ⟨rfl,U,λE=> ?_⟩⟩
   have ab:n≠l:=λe=>by rw [e,Y] at E;cases E
   refine Z _ _ _ (λi j=> ?_) (λi b e j=> ?_) (.inr ⟨n,0,(xs.map enc).flatten++[],?_,hL.fresh E,?_,?_,?_,?_,?_⟩)
   ·have O:i≠n:=λe=>by
     subst e
     rcases j with j|j|j
     ·obtain ⟨b,hb⟩:=hN _ j;rw [E] at hb;cases hb
     ·cases e:F i with
      | none=>exact j e
      | some b=>obtain ⟨c,hc⟩:=hF _ _ e;rw [E] at hc;cases hc
     ·exact j (hL.fresh E)
    have J:i≠l:=λe=>by
     subst e
     rcases j with j|j|j
     ·exact hn j
     ·exact j hf
     ·exact j ho
    rw [Zd _ _ O,Zd _ _ J]
   ·have O:i≠n:=λh=>by rw [h,E] at e;cases e
    have J:i≠l:=λh=>j (by rw [h];rfl)
    rw [Zd _ _ O,Zd _ _ J];exact e
   ·simp
   ·cases e:F n with
    | none=>rfl
    | some b=>obtain ⟨c,hc⟩:=hF _ _ e;rw [E] at hc;cases hc
   ·intro j;obtain ⟨b,hb⟩:=hN _ j;rw [E] at hb;cases hb
   ·rw [Xa,he];simp
   ·rw [List.append_nil,List.append_nil,Xh enc z Q];omega
   ·rw [List.append_nil,List.append_nil,List.drop_zero,List.take_of_length_le (by rw [Xh enc z Q];exact Nat.le_refl _)]
 ·have fr: ∀{m:Nat},g m=none→F m=none∧m∉N∧o m=none:=λ{m} E=>by
   refine ⟨?_,?_,hL.fresh E⟩
   ·cases e:F m with
    | none=>rfl
    | some b=>obtain ⟨c,hc⟩:=hF _ _ e;rw [E] at hc;cases hc
   ·intro j;obtain ⟨b,hb⟩:=hN _ j;rw [E] at hb;cases hb
  rcases h with ⟨rfl,rfl⟩|⟨l,off,cs,rfl,ho,hf,hn,Y,U,he⟩
  ·refine ⟨hb,by simpa using V,by simpa using h2,Rd.elems hx ⟨I,?_⟩⟩
   rw [if_pos (by unfold LC;decide),if_neg (by omega)]
   refine ⟨by simp,?_⟩
   intro E
   obtain ⟨f1,f2,f3⟩:=fr E
   refine Z _ _ _ (λi j=>Zd _ _ (λe=>by subst e;rcases j with j|j|j;exact f2 j;exact j f1;exact j f3)) (λi b e _=>by rw [Zd _ _ (λh=>by rw [h,E] at e;cases e)];exact e)
    (.inr ⟨n,0,(ys.map enc).flatten,?_,f3,f1,f2,?_,?_,?_⟩)
   ·simp
   ·rw [Xa];simp
   ·rw [List.nil_append,Xh enc z Q];omega
   ·rw [List.nil_append,List.drop_zero,List.take_of_length_le (by rw [Xh enc z Q];exact Nat.le_refl _)]
  ·refine ⟨hb,V,h2,Rd.elems hx ⟨I,?_⟩⟩
   rw [if_neg (by omega)]
   refine ⟨rfl,Za1 Y ⟨rfl,U,λE=> ?_⟩⟩
   obtain ⟨f1,f2,f3⟩:=fr E
   refine Z _ _ _ (λi j=> ?_) (λi b e j=> ?_) (.inr ⟨n,0,(xs.map enc).flatten++(ys.map enc).flatten,?_,f3,f1,f2,?_,?_,?_⟩)
   ·rw [Zd _ _ (λe=>by subst e;rcases j with j|j|j;exact f2 j;exact j f1;exact j f3),Zd _ _ (λe=>by subst e;rcases j with j|j|j;exact hn j;exact j hf;exact j ho)]
   ·rw [Zd _ _ (λh=>by rw [h,E] at e;cases e),Zd _ _ (λh=>j (by rw [h];rfl))];exact e
   ·simp
   ·rw [Xa,he]
   ·rw [←ZaW,Xh enc z Q];omega
   ·rw [List.drop_zero,←ZaW,List.take_of_length_le (by rw [Xh enc z Q];exact Nat.le_refl _)]
end
end
section
variable {g:G} {n:Nat}
def Jaa (L:List SE) (room:Int) (f n:Nat):List Value:=(L.map Qj).flatten++[.int .i64 room,.int .i64 (f:Nat),.int .i64 (n:Nat)]
theorem JbN {L:List SE} (h:L.length=16):(L.map Qj).flatten.length=80:=by rw [Xh Qj 5 JB,h]
section
variable {L:List SE} {room:Int} {f k:Nat}
theorem JdG (h:L.length=16):(Jaa L room f k).length=83:=by unfold Jaa;rw [List.length_append,JbN h];rfl
theorem Zbt (h:L.length=16) (i:Nat):(Jaa L room f k)[80+i]? =[Value.int .i64 room,.int .i64 (f:Nat),.int .i64 (k:Nat)][i]? :=by
 unfold Jaa
 rw [List.getElem?_append_right (by rw [JbN h];omega),JbN h]
 congr 1;omega
theorem Xh3 (h:L.length=16) {i:Nat} {e:SE} (j:L[i]? =some e):((Jaa L room f k).drop (i*5)).take 5=Qj e:=by
 have E:=Xg j
 unfold Jaa
 rw [List.drop_append_of_le_length (by rw [JbN h];omega),List.take_append_of_le_length (by rw [List.length_drop,JbN h];omega)]
 exact XbK Qj 5 JB L i e j
theorem Qhk (h:L.length=16) {i:Nat} (E:i<16) (e:SE):splice (Jaa L room f k) (i*5) (Qj e)=Jaa (L.set i e) room f k:=by
 have hs:=Xfs (enc:=Qj) (z:=5) JB L i e (by omega)
 have j:=JbN h
 unfold Jaa
 rw [←hs]
 unfold splice
 rw [List.take_append_of_le_length (by omega),List.drop_append_of_le_length (by rw [JB];omega)]
 simp
theorem Jga {x x':SE} {j:Nat} {v:Value} (E:j<5) (he:Qj x'=(Qj x).set j v): ∀{xs:List SE} {i:Nat},xs[i]? =some x→(xs.map Qj).flatten.set (i*5+j) v=((xs.set i x').map Qj).flatten
 | [],i,h=>by cases i<;>cases h
 | y::ys,0,h=>by
  cases h
  simp only [List.set_cons_zero,List.map_cons,List.flatten_cons,Nat.zero_mul,Nat.zero_add]
  rw [List.set_append_left _ _ (by rw [JB];exact E),he]
 | y::ys,i+1,h=>by
  simp only [List.set_cons_succ,List.map_cons,List.flatten_cons]
  rw [List.set_append_right _ _ (by rw [JB];omega),JB,show (i+1)*5+j-5=i*5+j by omega,Jga E he (xs:=ys) (i:=i) h]
theorem ZhK (h:L.length=16) {i:Nat} {e:SE} (j:L[i]? =some e):(Jaa L room f k).set (i*5+4) (.bool true)=Jaa (L.set i { e with sent:=true }) room f k:=by
 have E:=Xg j
 unfold Jaa
 rw [List.set_append_left _ _ (by rw [JbN h];omega),Jga (x:=e) (x':={ e with sent:=true }) (by decide) rfl j]
theorem Qgz (h:L.length=16) (i:Nat) (v:Value):(Jaa L room f k).set (80+i) v=(L.map Qj).flatten++[Value.int .i64 room,.int .i64 (f:Nat),.int .i64 (k:Nat)].set i v:=by
 unfold Jaa
 rw [List.set_append_right _ _ (by rw [JbN h];omega),JbN h]
 congr 2;omega
end
theorem Jeu {l o len z:Nat} {kk:IntKind} {i:Int} {K:Value→Prop} (j:0≤i) (E:i<len) (k:K (ptr l (o+i.toNat*z))):Ji (ptr l o) (.int kk i) len z K:=⟨j,E,k⟩
structure BRaw (g:G) (lb:Nat) (room:Int) (b:List SE) (L:List SE) (f:Nat):Prop where
 len:L.length=16
 fl:f<16
 nl:b.length≤16
 ati: ∀(i:Nat) e,b[i]? =some e→L[(f+i)%16]? =some e
 hb:g lb=some (.cells (Jaa L room f b.length) .exact)
def BufH (g:G) (lb:Nat) (room:Int) (b:List SE):Prop:= ∃L f,BRaw g lb room b L f
def Chg (X:Nat→Prop) (g g':G):Prop:= ∀l,¬X l→g l=none∨g' l=g l
section
variable {X:Nat→Prop}
theorem Chg.of_sub {g':G} (h:Sub g g'):Chg X g g':=λl _=>(h l).imp_right Eq.symm
theorem Chg.refl:Chg X g g:=λ_ _=> .inr rfl
theorem Chg.trans {E g2:G} (h:Chg X g E) (k:Chg X E g2):Chg X g g2:=λl j=>by
 rcases h l j with e|e
 ·exact .inl e
 ·rcases k l j with e2|e2
  ·exact .inl (by rw [←e];exact e2)
  ·exact .inr (e2.trans e)
theorem Chg.live {g':G} (h:Chg X g g') {l:Nat} {b:Blk} (j: ¬X l) (e:g l=some b):g' l=some b:=by
 rcases h l j with k|k
 ·rw [k] at e;cases e
 ·rw [k];exact e
theorem Chg.upd {g':G} (h:Chg X g g') {l:Nat} (E:X l) (b:Option Blk):Chg X g (upd g' l b):=λi j=>by
 have:i≠l:=λe=>j (by rw [e];exact E)
 rw [Zd _ _ this];exact h i j
theorem Chg.updE {g':G} {l:Nat} (h:Chg (λx=>x=l) g g') (b:Option Blk):Chg (λx=>x=l) g (Abs.upd g' l b):=h.upd rfl b
theorem Chg.new {g':G} (h:Chg X g g') {l:Nat} (E:g l=none) (b:Option Blk):Chg X g (Abs.upd g' l b):=λi j=>by
 by_cases e:i=l
 ·subst e;exact .inl E
 ·rw [Zd _ _ e];exact h i j
theorem Chg.mono {Y:Nat→Prop} {g':G} (h:Chg X g g') (j: ∀l,X l→Y l):Chg Y g g':=λl E=>h l (λk=>E (j l k))
end
section
variable {lb:Nat} {room:Int} {b L:List SE} {f:Nat} {K:Cont}
theorem BRaw.mono {g':G} (h:BRaw g lb room b L f) (hs:Sub g g'):BRaw g' lb room b L f:=⟨h.len,h.fl,h.nl,h.ati,hs.live h.hb⟩
theorem BufH.mono {g':G} (h:BufH g lb room b) (hs:Sub g g'):BufH g' lb room b:=by obtain ⟨L,f,h⟩:=h;exact ⟨L,f,h.mono hs⟩
theorem BufH.eq {g':G} (h:BufH g lb room b) (hs:g' lb=g lb):BufH g' lb room b:=by obtain ⟨L,f,h⟩:=h;exact ⟨L,f,h.len,h.fl,h.nl,h.ati,hs.trans h.hb⟩
theorem JcY (h:BufH g lb room b) (j: ∀n',K (.int .i64 b.length) g n'):AC JD [ptr lb 0] g n K:=by
 obtain ⟨L,f,h⟩:=h
 refine ACalls.fold Xb ?_
 rw [←XcS]
 simp only [Zcc]
 refine QaE (Xo (λh=>nomatch h) (λ_=> ?_))
 rw [Qd,Qb]
 refine Zb h.hb (by rw [Nat.zero_add];exact Zbt h.len 2) ?_
 exact Ja (Sub.refl _) (j _)
theorem ZcO {k:Nat} (j:L.length=16) (O:f<16) (hb:g lb=some (.cells (Jaa L room f k) .exact)) {i:Int} (I:0≤i) (J:i≤16) (E: ∀n',K (.int .i64 ((f+i.toNat)%16:Nat)) g n'):AC QD [ptr lb 0,.int .i64 i] g n K:=by
 refine ACalls.fold Xb ?_
 rw [←Qc6]
 simp only [Jct]
 rw [Qd,Qb]
 refine Zb hb (by rw [Nat.zero_add];exact Zbt j 1) ?_
 rw [Jf,Qg (by omega) (by omega),Zck]
 refine ⟨by decide,?_⟩
 have e:Int.tmod ((f:Int)+i) 16=(((f+i.toNat)%16:Nat):Int):=by
  rw [Int.tmod_eq_emod_of_nonneg (by omega)];omega
 rw [e]
 exact Ja (Sub.refl _) (E _)
theorem ZhC {l:Nat} {e:SE} {bk:BK} {K:List Value→Prop} (h:g l=some (.cells (Qj e) bk)) (k:K (Qj e)):Ql g l 0 5 K:=by
 refine Jt h (by rw [JB];decide) ?_
 rw [List.drop_zero,List.take_of_length_le (by rw [JB];decide)];exact k
theorem JgW {l:Nat} {z e:SE} {K:G→Prop} (h:g l=some (.cells (Qj z) .exact)) (k:upd g l (some (.cells (Qj e) .exact)) l=some (.cells (Qj e) .exact)→K (upd g l (some (.cells (Qj e) .exact)))):(Qj e).length=5∧Qu g l 0 (Qj e) K:=by
 refine ⟨JB _,Xt h rfl (by rw [JB,JB];decide) (Qcm _) ?_⟩
 rw [Jw (by rw [JB,JB])]
 exact k (Xa _ _ _)
theorem BRaw.ent (h:BRaw g lb room b L f) {i:Nat} {e:SE} (I:b[i]? =some e) {K:List Value→Prop} (k:K (Qj e)):Ql g lb (0+0+((f+i)%16)*5) 5 K:=by
 have E:=h.ati i e I
 have j:=Xg E
 rw [h.len] at j
 refine Jt h.hb (by rw [JdG h.len];omega) ?_
 rw [show 0+0+((f+i)%16)*5=((f+i)%16)*5 by omega,Xh3 h.len E];exact k
theorem BRaw.head {e:SE} {t:List SE} (h:BRaw g lb room (e::t) L f) {K:List Value→Prop} (k:K (Qj e)):Ql g lb (0+0+f*5) 5 K:=by
 have:=h.ent (i:=0) (e:=e) rfl (K:=K) k
 rw [show (f+0)%16=f by have:=h.fl;omega] at this
 exact this
theorem Qfe (e:SE) (hK: ∀g' n',Sub g g'→K (.bool e.good) g' n'):AC Zb5 [.agg (Qj e).toArray] g n K:=by
 refine ACalls.fold Xb ?_
 rw [←QeP]
 simp only [Jey,Xe]
 intro hn
 have s1:=(Sub.refl g).new hn (some (.cells (Qj e) .exact))
 have I:upd g n (some (.cells (Qj e) .exact)) n=some (.cells (Qj e) .exact):=Xa _ _ _
 generalize upd g n (some (.cells (Qj e) .exact))=g1 at s1 I
 have E: ∀(c:Bool) (m:Nat),c=e.good→Zc K (.bool c) g1 m:=λc m h=>by subst h;exact Ja (Sub.refl _) (hK _ _ s1)
 have j: ∀(t:Env) (m:Nat),t 1=ptr n 0→0≤e.line→e.line<64→0≤e.word→e.word<8→e.sent=false→e.kind≠9→t 29= .bool (decide (e.kind=12∨e.kind=13∨e.kind=14))→Qa0 AC K t g1 m:=by
  intro t m t1 a1 a2 a3 a4 a5 Z U
  simp only [Qa0,t1,U,Qb]
  refine Jg (λhk=> ?_) (λhk=>E _ _ ?_)
  ·refine Zb I rfl (XaB (Jg (λO=> ?_) (λO=>E _ _ ?_)))
   ·refine Zb I rfl (XaB (E _ _ ?_))
    unfold SE.good;simp [a1,a2,a5,Z,hk,O]
   ·unfold SE.good;simp [Z,O]
  ·unfold SE.good;simp [Z];omega
 refine Zb I rfl (Qcv (Jg (λO=>E _ _ (by unfold SE.good;simp;omega)) (λO=> ?_)))
 refine Zb I rfl (QeA (Jg (λh2=>E _ _ (by unfold SE.good;simp;omega)) (λh2=> ?_)))
 refine Zb I rfl (Qcv (Jg (λh3=>E _ _ (by unfold SE.good;simp;omega)) (λh3=> ?_)))
 refine Zb I rfl (QeA (Jg (λh4=>E _ _ (by unfold SE.good;simp;omega)) (λh4=> ?_)))
 refine Zb I rfl (Xo (λJ=>E _ _ (by unfold SE.good;simp [J])) (λJ=> ?_))
 refine Zb I rfl (XaB (Jg (λQ=>E _ _ (by unfold SE.good;simp [J,Q];omega)) (λQ=> ?_)))
 refine XaB (Jg (λY=>j _ _ rfl (by omega) (by omega) (by omega) (by omega) J Q ?_) (λY=>XaB (Jg (λV=>j _ _ rfl (by omega) (by omega) (by omega) (by omega) J Q ?_) (λV=>XaB (j _ _ rfl (by omega) (by omega) (by omega) (by omega) J Q ?_)))))
 ·show Value.bool (decide (e.kind=12))=_;congr 1;simp [Y]
 ·show Value.bool (decide (e.kind=13))=_;congr 1;simp [V]
 ·show Value.bool (decide (e.kind=14))=_;congr 1;simp [Y,V]
theorem Qc5 (h:BufH g lb room b) (Q: ∀g' n',Sub g g'→K (.tuple #[.agg (Qj (b.headD Jm)).toArray,.bool (!b.isEmpty)]) g' n'):AC ZI [ptr lb 0] g n K:=by
 refine ACalls.fold Xb ?_
 rw [←JcA]
 simp only [XbV,Xi]
 intro J
 have E:Sub g (upd g n (some (.cells (Qj Jm) .exact))):=(Sub.refl g).new J _
 have O:upd g n (some (.cells (Qj Jm) .exact)) n=some (.cells (Qj Jm) .exact):=Xa _ _ _
 change AC JD [ptr lb 0] (upd g n (some (.cells (Qj Jm) .exact))) (n+1) _
 have I:=h.mono E
 generalize upd g n (some (.cells (Qj Jm) .exact))=U at E O I
 refine JcY I (λn2=> ?_)
 refine XaB ?_
 cases b with
 | nil=>
  refine Ze rfl ?_
  change Jj (.agg (Qj Jm).toArray) _
  rw [Xe]
  refine JgW O (λh=> ?_)
  refine ZhC h ?_
  exact Ja (Sub.refl _) (Q _ _ (E.upd_fresh _ J))
 | cons e t=>
  refine Jc (decide_eq_false (by simp;omega)) ?_
  obtain ⟨L,f,j⟩:=I
  rw [Qd,Qb]
  refine Zb j.hb (by rw [Nat.zero_add];exact Zbt j.len 1) ?_
  rw [Qd,Qb]
  have V:=j.fl
  refine Jeu (by omega) (by omega) ?_
  rw [Qb,Int.toNat_natCast]
  refine j.head ?_
  rw [Xe]
  refine JgW O (λh=> ?_)
  refine ZhC h ?_
  exact Ja (Sub.refl _) (Q _ _ (E.upd_fresh _ J))
end
end
section
variable {g:G} {n:Nat}
section
variable {lb:Nat} {room:Int} {b L:List SE} {f:Nat} {K:Cont}
theorem JfO (l:List SE) (e:SE) (x y:Int):ZcW (l++[e]) x y=if JfT x y e=true then some e.val else ZcW l x y:=by
 unfold ZcW
 rw [List.reverse_append,List.reverse_singleton,List.singleton_append,List.find?_cons]
 split<;>rename_i h
 ·rw [if_pos h];rfl
 ·rw [if_neg (by rw [h];decide)]
set_option maxRecDepth 100000 in
theorem Xf1 (h:BufH g lb room b) (line word:Int) (hK: ∀g' n',Sub g g'→K (.tuple #[.int .u64 ((ZcW b line word).getD 0),.bool (ZcW b line word).isSome]) g' n'):
  AC ZaF [ptr lb 0,.int .i64 line,.int .i64 word] g n K:=by
 refine ACalls.fold Xb ?_
 rw [←ZcJ]
 simp only [ZbX]
 refine JcY h (λn1=> ?_)
 obtain ⟨L,f,hr⟩:=h
 have ae:=hr.nl
 rw [ZaN,Qg (by omega) (by omega)]
 refine XA (m:=b.length) (Inv:=λm t U n1=>m≤b.length∧t 0=ptr lb 0∧t 1= .int .i64 line∧t 2= .int .i64 word∧t 8= .int .i64 ((m:Int)-1)∧Sub g U∧ZcW b line word=ZcW (b.take m) line word) ?_
  ⟨Nat.le_refl _,rfl,rfl,rfl,rfl,Sub.refl _,by rw [List.take_length]⟩
 rintro I m t U n1 ih ⟨hm,q0,Y,V,q8,s1,hf⟩
 simp only [Jbh]
 have af:=q8
 rw [q8]
 refine QeA ?_
 cases m with
 | zero=>
  refine Jc (decide_eq_false (by omega)) ?_
  have e:ZcW b line word=none:=by rw [hf];rfl
  rw [e] at hK
  exact Ja (Sub.refl _) (hK _ _ s1)
 | succ j=>
  refine Ze (decide_eq_true (by omega)) ?_
  have hj:j<b.length:=hm
  obtain ⟨e,he⟩: ∃e,b[j]? =some e:=⟨_,List.getElem?_eq_getElem hj⟩
  have ad:b.take (j+1)=b.take j++[e]:=take_add he
  rw [ad,JfO] at hf
  have ab: ∀{g2:G} {n2:Nat},Sub g g2→JfT line word e=true→K (.tuple #[.int .u64 e.val,.bool true]) g2 n2:=by
   intro g2 n2 s2 hs
   have:=hK g2 n2 s2
   rw [hf,if_pos hs] at this
   exact this
  have next:JfT line word e=false→ZcW b line word=ZcW (b.take j) line word:=by
   intro hs;rw [hf,if_neg (by rw [hs];decide)]
  have J:=hr.mono s1
  rw [q0]
  simp only [Qd,Qb]
  refine ⟨?_,?_⟩
  ·rw [show (((j+1:Nat):Int)-1)=(j:Nat) by omega] at q8 ⊢
   refine ZcO J.len J.fl J.hb (by omega) (by omega) (λn2=> ?_)
   rw [Int.toNat_natCast]
   have aa:(f+j)%16<16:=Nat.mod_lt _ (by decide)
   refine Jeu (by omega) (by omega) ?_
   rw [Qb,Int.toNat_natCast]
   refine J.ent he ?_
   change Zl (Qj Jm) .exact U n2 _
   intro Z
   have E:=s1.trans ((Sub.refl U).new Z (some (.cells (Qj Jm) .exact)))
   have ac:n2≠lb:=λe=>by rw [e,J.hb] at Z;cases Z
   refine ⟨Zd _ _ (Ne.symm ac),?_⟩
   rw [Xe]
   refine JgW (z:=Jm) (Xa _ _ _) (λO=> ?_)
   have E:Sub g (upd (upd U n2 (some (.cells (Qj Jm) .exact))) n2 (some (.cells (Qj e) .exact))):=E.upd_fresh _ (s1.none Z)
   generalize upd (upd U n2 (some (.cells (Qj Jm) .exact))) n2 (some (.cells (Qj e) .exact))=g9 at O E
   refine Zb O rfl (XaB (Jg (λc1=> ?_) (λc1=> ?_)))
   ·refine Zb O rfl ?_
    rw [Y]
    refine XaB (Jg (λc2=> ?_) (λc2=> ?_))
    ·refine Zb O rfl ?_
     rw [V]
     refine XaB (Jg (λc3=> ?_) (λc3=> ?_))
     ·refine Zb O rfl ?_
      exact Ja (Sub.refl _) (ab E (by rw [JfT,decide_eq_true ⟨c1,c2,c3⟩]))
     ·rw [ZaN,Qg (by omega) (by omega)]
      exact ih _ _ _ _ (Nat.lt_succ_self _) ⟨by omega,q0,Y,V,rfl,E,next (by rw [JfT];exact decide_eq_false (λc=>c3 c.2.2))⟩
    ·rw [ZaN,Qg (by omega) (by omega)]
     exact ih _ _ _ _ (Nat.lt_succ_self _) ⟨by omega,q0,Y,V,rfl,E,next (by rw [JfT];exact decide_eq_false (λc=>c2 c.2.1))⟩
   ·rw [ZaN,Qg (by omega) (by omega)]
    exact ih _ _ _ _ (Nat.lt_succ_self _) ⟨by omega,q0,Y,V,rfl,E,next (by rw [JfT];exact decide_eq_false (λc=>c1 c.1))⟩
  ·rw [show (((j+1:Nat):Int)-1)=(j:Nat) by omega] at q8 ⊢
   intro Z
   have E:=(Sub.refl U).new Z (some (.cells (Qj Jm) .exact))
   have hz:upd U n1 (some (.cells (Qj Jm) .exact)) n1=some (.cells (Qj Jm) .exact):=Xa _ _ _
   have Q:=J.mono E
   have sg:=s1.trans E
   change AC QD [ptr lb 0,.int .i64 (j:Nat)] (upd U n1 (some (.cells (Qj Jm) .exact))) (n1+1) _
   generalize upd U n1 (some (.cells (Qj Jm) .exact))=g2 at E hz Q sg
   refine ZcO Q.len Q.fl Q.hb (by omega) (by omega) (λn2=> ?_)
   rw [Int.toNat_natCast]
   have aa:(f+j)%16<16:=Nat.mod_lt _ (by decide)
   refine Jeu (by omega) (by omega) ?_
   rw [Qb,Int.toNat_natCast]
   refine Q.ent he ?_
   rw [Xe]
   refine JgW hz (λO=> ?_)
   have E:Sub g (upd g2 n1 (some (.cells (Qj e) .exact))):=sg.upd_fresh _ (s1.none Z)
   generalize upd g2 n1 (some (.cells (Qj e) .exact))=g9 at O E
   refine Zb O rfl (XaB (Jg (λc1=> ?_) (λc1=> ?_)))
   ·refine Zb O rfl ?_
    rw [Y]
    refine XaB (Jg (λc2=> ?_) (λc2=> ?_))
    ·refine Zb O rfl ?_
     rw [V]
     refine XaB (Jg (λc3=> ?_) (λc3=> ?_))
     ·refine Zb O rfl ?_
      exact Ja (Sub.refl _) (ab E (by rw [JfT,decide_eq_true ⟨c1,c2,c3⟩]))
     ·rw [ZaN,Qg (by omega) (by omega)]
      exact ih _ _ _ _ (Nat.lt_succ_self _) ⟨by omega,q0,Y,V,rfl,E,next (by rw [JfT];exact decide_eq_false (λc=>c3 c.2.2))⟩
    ·rw [ZaN,Qg (by omega) (by omega)]
     exact ih _ _ _ _ (Nat.lt_succ_self _) ⟨by omega,q0,Y,V,rfl,E,next (by rw [JfT];exact decide_eq_false (λc=>c2 c.2.1))⟩
   ·rw [ZaN,Qg (by omega) (by omega)]
    exact ih _ _ _ _ (Nat.lt_succ_self _) ⟨by omega,q0,Y,V,rfl,E,next (by rw [JfT];exact decide_eq_false (λc=>c1 c.1))⟩
theorem QfG (h:BufH g lb room b) (Y:room≤16) (e:SE) (aa:e.good=false→ ∀g' n',Sub g g'→K (.int .i64 11) g' n') (Z:e.good=true→room≤b.length→ ∀g' n',Sub g g'→K (.int .i64 13) g' n')
  (U:e.good=true→(b.length:Int)<room→ ∀g' n',Chg (· =lb) g g'→BufH g' lb room (b++[e])→K (.int .i64 0) g' n'):AC JaE [ptr lb 0,.agg (Qj e).toArray] g n K:=by
 refine ACalls.fold Xb ?_
 rw [←QcI]
 simp only [ZbV,Xe]
 intro hn
 have O:=(Sub.refl g).new hn (some (.cells (Qj e) .exact))
 have Q:upd g n (some (.cells (Qj e) .exact)) n=some (.cells (Qj e) .exact):=Xa _ _ _
 have h1:=h.mono O
 generalize upd g n (some (.cells (Qj e) .exact))=g1 at O Q h1
 refine QaE (Xo (λh=>nomatch h) (λ_=> ?_))
 refine ZhC Q (Qfe e (λg2 n2 s2=> ?_))
 have sg:=O.trans s2
 obtain ⟨L,f,j⟩:=h1.mono s2
 have x2:=s2.live Q
 refine XaC (Xo (λhg=>Ja (Sub.refl _) (aa (by simpa using hg) _ _ sg)) (λhg=> ?_))
 have J:e.good=true:=by simpa using hg
 rw [Qd,Qb]
 refine Zb j.hb (by rw [Nat.zero_add];exact Zbt j.len 2) ?_
 rw [Qd,Qb]
 refine Zb j.hb (by rw [Nat.zero_add];exact Zbt j.len 0) ?_
 refine QeA (Jg (λhl=>Ja (Sub.refl _) (Z J hl _ _ sg)) (λhl=> ?_))
 rw [Qd,Qb]
 refine Zb j.hb (by rw [Nat.zero_add];exact Zbt j.len 2) ?_
 refine ZhC x2 ?_
 rw [Qd,Qb]
 have hf:=j.fl
 refine ZcO j.len j.fl j.hb (by omega) (by omega) (λn3=> ?_)
 rw [Int.toNat_natCast,Qb]
 refine ⟨rfl,?_⟩
 have I:(f+b.length)%16<16:=Nat.mod_lt _ (by decide)
 refine Jeu (by omega) (by omega) ?_
 rw [Qb,Int.toNat_natCast]
 refine ⟨JB _,?_⟩
 have off:0+0+(f+b.length)%16*5=(f+b.length)%16*5:=by omega
 rw [off]
 refine Xt j.hb rfl (by rw [JdG j.len,JB];omega) (Qcm _) ?_
 rw [Qhk j.len I e]
 have E:(L.set ((f+b.length)%16) e).length=16:=by rw [List.length_set];exact j.len
 have y:upd g2 lb (some (.cells (Jaa (L.set ((f+b.length)%16) e) room f b.length) .exact)) lb=some (.cells (Jaa (L.set ((f+b.length)%16) e) room f b.length) .exact):=Xa _ _ _
 rw [Qd,Qb]
 refine Zb y (by rw [Nat.zero_add];exact Zbt E 2) ?_
 rw [Jf,Qg (by omega) (by omega)]
 rw [Qd,Qb]
 refine Qz y rfl (by rw [JdG E];decide) rfl ?_
 rw [show (0+82:Nat)=80+2 from rfl,Qgz E]
 refine Ja (Sub.refl _) (U J (by omega) _ _ ?_ ⟨L.set ((f+b.length)%16) e,f,E,j.fl,?_,?_,?_⟩)
 ·exact ((Chg.of_sub sg).updE _).updE _
 ·simp only [List.length_append,List.length_singleton];omega
 ·intro i x hx
  by_cases hi:i<b.length
  ·rw [List.getElem?_append_left hi] at hx
   have:=j.ati i x hx
   rw [List.getElem?_set_ne (by omega)];exact this
  ·have V:i=b.length:=by
    have:=Xg hx
    simp only [List.length_append,List.length_singleton] at this
    omega
   subst V
   rw [List.getElem?_append_right (Nat.le_refl _),Nat.sub_self] at hx
   cases hx
   exact List.getElem?_set_self (by rw [j.len];exact I)
 ·rw [Xa]
  unfold Jaa
  simp only [List.set_cons_succ,List.set_cons_zero,List.length_append,List.length_singleton]
  rfl
theorem Zgs (h:BufH g lb room b) (hK: ∀v g' n',Chg (· =lb) g g'→BufH g' lb room b.tail→K v g' n'):AC QaK [ptr lb 0] g n K:=by
 refine ACalls.fold Xb ?_
 rw [←JcV]
 simp only [Jb4,Xi]
 intro Z
 have s1:=(Sub.refl g).new Z (some (.cells (Qj Jm) .exact))
 have x1:upd g n (some (.cells (Qj Jm) .exact)) n=some (.cells (Qj Jm) .exact):=Xa _ _ _
 have h1:=h.mono s1
 change AC ZI [ptr lb 0] (upd g n (some (.cells (Qj Jm) .exact))) (n+1) _
 generalize upd g n (some (.cells (Qj Jm) .exact))=g1 at s1 x1 h1
 refine Qc5 h1 (λg2 n2 s2=> ?_)
 have h2:=h1.mono s2
 have x2:=s2.live x1
 have sg:=s1.trans s2
 refine Jar rfl (Jar rfl ?_)
 change Zl (Qj Jm) .exact g2 n2 _
 intro O
 have s3:=(Sub.refl g2).new O (some (.cells (Qj Jm) .exact))
 have x4:upd g2 n2 (some (.cells (Qj Jm) .exact)) n2=some (.cells (Qj Jm) .exact):=Xa _ _ _
 have h3:=h2.mono s3
 have x3:=s3.live x2
 have V:=sg.trans s3
 have aa:n2≠n:=λe=>by rw [e,x2] at O;cases O
 generalize upd g2 n2 (some (.cells (Qj Jm) .exact))=g3 at s3 x4 h3 x3 V
 rw [Xe]
 refine JgW x4 (λx5=> ?_)
 have hg2n:g n2=none:=sg.none O
 have Q:Sub g (upd g3 n2 (some (.cells (Qj (b.headD Jm)) .exact))):=V.upd_fresh _ hg2n
 have x6:upd g3 n2 (some (.cells (Qj (b.headD Jm)) .exact)) n=some (.cells (Qj Jm) .exact):=by rw [Zd _ _ (Ne.symm aa)];exact x3
 have I:n≠lb:=λe=>by obtain ⟨L,f,J⟩:=h;rw [e,J.hb] at Z;cases Z
 have hn2lb:n2≠lb:=λe=>by obtain ⟨L,f,J⟩:=h;rw [e,J.hb] at hg2n;cases hg2n
 have h4:BufH (upd g3 n2 (some (.cells (Qj (b.headD Jm)) .exact))) lb room b:=h3.eq (Zd _ _ (Ne.symm hn2lb))
 generalize upd g3 n2 (some (.cells (Qj (b.headD Jm)) .exact))=g4 at x5 Q x6 h4
 have j: ∀(t:Env) (U:G) (m:Nat),t 4=ptr n2 0→t 2=ptr n 0→U n2=some (.cells (Qj (b.headD Jm)) .exact)→U n=some (.cells (Qj Jm) .exact)→Chg (· =lb) g U→BufH U lb room b.tail→Zam AC K t U m:=by
  intro t U m t4 t2 y1 y2 hc hb
  simp only [Zam,t4,t2,Qb]
  refine ZhC y1 ?_
  rw [Xe]
  refine JgW y2 (λy3=> ?_)
  refine ZhC y3 ?_
  refine Ja (Sub.refl _) (hK _ _ _ (hc.new Z _) (hb.eq (Zd _ _ (Ne.symm I))))
 cases b with
 | nil=>
  refine Jc rfl ?_
  exact j _ _ _ rfl rfl x5 x6 (Chg.of_sub Q) h4
 | cons e t=>
  refine Ze rfl ?_
  obtain ⟨L,f,J⟩:=h4
  have hf:=J.fl
  have Y:=J.nl
  rw [List.length_cons] at Y
  rw [Qd,Qb]
  refine Zb J.hb (by rw [Nat.zero_add];exact Zbt J.len 1) ?_
  rw [Qd,Qb]
  refine Jeu (by omega) (by omega) ?_
  change Xc _ λaf ae=>Jj (.agg (Qj Jm).toArray) _
  rw [Qb,Int.toNat_natCast,Xe]
  refine ⟨JB _,?_⟩
  rw [show 0+0+f*5=f*5 by omega]
  refine Xt J.hb rfl (by rw [JdG J.len,JB];omega) (Qcm _) ?_
  rw [Qhk J.len hf Jm]
  have E:(L.set f Jm).length=16:=by rw [List.length_set];exact J.len
  have y:upd g4 lb (some (.cells (Jaa (L.set f Jm) room f (e::t).length) .exact)) lb=some (.cells (Jaa (L.set f Jm) room f (e::t).length) .exact):=Xa _ _ _
  rw [Qd,Qb]
  refine Zb y (by rw [Nat.zero_add];exact Zbt E 2) ?_
  rw [ZaN,Qg (by rw [List.length_cons];omega) (by rw [List.length_cons];omega)]
  refine ZcO E hf y (by decide) (by decide) (λn5=> ?_)
  rw [Qb]
  refine ⟨rfl,?_⟩
  rw [Qd,Qb]
  refine Qz y rfl (by rw [JdG E];decide) rfl ?_
  rw [show (0+81:Nat)=80+1 from rfl,Qgz E]
  have z:upd (upd g4 lb (some (.cells (Jaa (L.set f Jm) room f (e::t).length) .exact))) lb (some (.cells (Jaa (L.set f Jm) room ((f+1)%16) (e::t).length) .exact)) lb=some (.cells (Jaa (L.set f Jm) room ((f+1)%16) (e::t).length) .exact):=Xa _ _ _
  change Xf (ptr lb 0) λac=>Xc ac λad ab=>kSt (upd (upd g4 lb (some (.cells (Jaa (L.set f Jm) room f (e::t).length) .exact))) lb (some (.cells (Jaa (L.set f Jm) room ((f+1)%16) (e::t).length) .exact))) ad (ab+82) _ _
  rw [Qd,Qb]
  refine Qz z rfl (by rw [JdG E];decide) rfl ?_
  rw [show (0+82:Nat)=80+2 from rfl,Qgz E]
  refine j _ _ _ rfl rfl ?_ ?_ ?_ ⟨L.set f Jm,(f+1)%16,E,Nat.mod_lt _ (by decide),?_,?_,?_⟩
  ·rw [Zd _ _ hn2lb,Zd _ _ hn2lb,Zd _ _ hn2lb];exact x5
  ·rw [Zd _ _ I,Zd _ _ I,Zd _ _ I];exact x6
  ·exact (((Chg.of_sub Q).updE _).updE _).updE _
  ·show t.length≤16;omega
  ·intro i x hx
   have hi:=Xg (show t[i]? =some x from hx)
   have:=J.ati (i+1) x hx
   rw [List.getElem?_set_ne (by omega)]
   rw [show ((f+1)%16+i)%16=(f+(i+1))%16 by omega];exact this
  ·rw [Xa]
   unfold Jaa
   simp only [List.set_cons_succ,List.set_cons_zero,List.tail_cons,List.length_cons]
   rw [show (((t.length+1:Nat):Int)-1)=(t.length:Nat) by omega]
theorem JfQ {e:SE} {t:List SE} (h:BufH g lb room (e::t)) (he:e.kind=14) (hK: ∀v g' n',Chg (· =lb) g g'→BufH g' lb room ({ e with sent:=true }::t)→K v g' n'):AC Qae [ptr lb 0] g n K:=by
 refine ACalls.fold Xb ?_
 rw [←ZcD]
 simp only [Jb0]
 refine Qc5 h (λU n1 V=> ?_)
 have h1:=h.mono V
 refine Jar rfl (Jar rfl ?_)
 change Zl (Qj Jm) .exact U n1 _
 intro J
 have Y:=(Sub.refl U).new J (some (.cells (Qj Jm) .exact))
 have x2:upd U n1 (some (.cells (Qj Jm) .exact)) n1=some (.cells (Qj Jm) .exact):=Xa _ _ _
 have h2:=h1.mono Y
 have sg:=V.trans Y
 generalize upd U n1 (some (.cells (Qj Jm) .exact))=Q at Y x2 h2 sg
 rw [Xe]
 refine JgW (e:=e) x2 (λZ=> ?_)
 have I:Sub g (upd Q n1 (some (.cells (Qj e) .exact))):=sg.upd_fresh _ (V.none J)
 have E:n1≠lb:=λe=>by obtain ⟨L,f,j⟩:=h1;rw [e,j.hb] at J;cases J
 have h3:BufH (upd Q n1 (some (.cells (Qj e) .exact))) lb room (e::t):=h2.eq (Zd _ _ (Ne.symm E))
 change Qa (.bool true) (kLd (upd Q n1 (some (.cells (Qj e) .exact))) n1 (0+0) _) _
 generalize upd Q n1 (some (.cells (Qj e) .exact))=g3 at Z I h3
 refine Ze rfl ?_
 refine Zb Z rfl (XaB (Ze (by simpa using he) ?_))
 obtain ⟨L,f,j⟩:=h3
 have O:=j.fl
 rw [Qd,Qb]
 refine Zb j.hb (by rw [Nat.zero_add];exact Zbt j.len 1) ?_
 rw [Qd,Qb]
 refine Jeu (by omega) (by omega) ?_
 rw [Qb,Int.toNat_natCast]
 have hL:L[f]? =some e:=by have:=j.ati 0 e rfl;rwa [Nat.add_zero,Nat.mod_eq_of_lt O] at this
 refine Qz j.hb rfl (by rw [JdG j.len];omega) rfl ?_
 rw [show 0+0+f*5+4=f*5+4 by omega,ZhK j.len hL]
 refine Ja (Sub.refl _) (hK _ _ _ ((Chg.of_sub I).updE _) ⟨L.set f { e with sent:=true },f,by rw [List.length_set];exact j.len,O,j.nl,?_,Xa _ _ _⟩)
 intro i x hx
 cases i with
 | zero=>
  cases hx
  rw [Nat.add_zero,Nat.mod_eq_of_lt O]
  exact List.getElem?_set_self (by rw [j.len];exact O)
 | succ i=>
  have hi:=Xg (show t[i]? =some x from hx)
  have:=j.nl
  rw [List.length_cons] at this
  rw [List.getElem?_set_ne (by omega)]
  exact j.ati (i+1) x hx
end
end
section
variable {g:G} {n:Nat}
section
variable {K:Cont} {a b:Int}
theorem JfM (j: ∀n',K (.int .u64 (IntKind.u64.wrap (a+b))) g n'):AC ZC [.int .u64 a,.int .u64 b] g n K:=by
 refine ACalls.fold Xb ?_
 rw [←JdU]
 simp only [QdQ,Jf]
 exact Ja (Sub.refl _) (j _)
theorem QfW (j: ∀n',K (.int .u64 (IntKind.u64.wrap (a-b))) g n'):AC QJ [.int .u64 a,.int .u64 b] g n K:=by
 refine ACalls.fold Xb ?_
 rw [←XdV]
 simp only [ZdD,ZaN]
 exact Ja (Sub.refl _) (j _)
theorem JfR (j: ∀n',K (.int .u64 (IntKind.u64.wrap (BitVec.ofInt 64 a &&& BitVec.ofInt 64 b).toNat)) g n'):AC QW [.int .u64 a,.int .u64 b] g n K:=by
 refine ACalls.fold Xb ?_
 rw [←XdS]
 simp only [ZdB,Jb,ZH,true_and]
 exact Ja (Sub.refl _) (j _)
theorem Qf7 (j: ∀n',K (.int .u64 (IntKind.u64.wrap (BitVec.ofInt 64 a ^^^ BitVec.ofInt 64 b).toNat)) g n'):AC X7 [.int .u64 a,.int .u64 b] g n K:=by
 refine ACalls.fold Xb ?_
 rw [←ZdS]
 simp only [XdC,Jb,ZH,true_and]
 exact Ja (Sub.refl _) (j _)
theorem QfY (hb:0≤b) (j: ∀n',K (.int .u64 (IntKind.u64.wrap (a*2^(min (b.tmod 64).toNat 64)))) g n'):AC Xaj [.int .u64 a,.int .u64 b] g n K:=by
 refine ACalls.fold Xb ?_
 rw [←QdW]
 simp only [QdN,Zck]
 refine ⟨by decide,?_⟩
 refine ⟨trivial,Int.tmod_nonneg _ hb,?_⟩
 exact Ja (Sub.refl _) (j _)
theorem ZfM (hb:0≤b) (j: ∀n',K (.int .u64 (a.fdiv (2^(min (b.tmod 64).toNat 64)))) g n'):AC ZaA [.int .u64 a,.int .u64 b] g n K:=by
 refine ACalls.fold Xb ?_
 rw [←XdT]
 simp only [Zdx,Zck]
 refine ⟨by decide,?_⟩
 refine ⟨trivial,Int.tmod_nonneg _ hb,?_⟩
 exact Ja (Sub.refl _) (j _)
def evF (f:FuncId):Value:= .agg #[.func (.func f) #[] #[]]
def QgX:List (Int×FuncId):=[(2,ZC),(3,QJ),(4,QW),(5,X7),(6,Xaj),(7,ZaA)]
theorem ZhP {l:Nat} {k:Int} {f:FuncId} {ms:List (Int×FuncId)} {K:G→Prop} (h:g l=some (.map (MpE evF .i64 ms))) (k':upd g l (some (.map (MpE evF .i64 (Zc0 ms k f)))) l=some (.map (MpE evF .i64 (Zc0 ms k f)))→K (upd g l (some (.map (MpE evF .i64 (Zc0 ms k f)))))):
  Qf [.nilFunc] [(0,none,.func (.func f) #[] #[])] λc2=>ZaV .i64 (.map (some l)) (.int .i64 k) (.agg c2.toArray) g K:=by
 refine ⟨rfl,Nat.le_of_ble_eq_true rfl,?_⟩
 exact JgO (ev:=evF) (x:=f) h (k' (Xa _ _ _))
theorem ZfW (hK: ∀l g' n',Sub g g'→g' l=some (.map (MpE evF .i64 QgX))→K (.map (some l)) g' n'):AC Xcg [] g n K:=by
 refine ACalls.fold Xb ?_
 rw [←JeM]
 simp only [ZeA]
 intro hn
 have fr: ∀{j:G} (b:Option Blk),Sub g j→Sub g (upd j n b):=λb s=>s.upd_fresh _ hn
 have J:Sub g (upd g n (some (.map []))):=fr _ (Sub.refl _)
 have O:upd g n (some (.map [])) n=some (.map (MpE evF .i64 [])):=Xa _ _ _
 generalize upd g n (some (.map []))=j at J O
 refine ZhP O (λI=> ?_)
 have s2:=fr (some (.map (MpE evF .i64 (Zc0 [] 2 ZC)))) J
 generalize upd j n (some (.map (MpE evF .i64 (Zc0 [] 2 ZC))))=g2 at s2 I
 refine ZhP I (λE=> ?_)
 have U:=fr (some (.map (MpE evF .i64 (Zc0 (Zc0 [] 2 ZC) 3 QJ)))) s2
 generalize upd g2 n _=g3 at U E
 refine ZhP E (λY=> ?_)
 have Q:=fr (some (.map (MpE evF .i64 (Zc0 (Zc0 (Zc0 [] 2 ZC) 3 QJ) 4 QW)))) U
 generalize upd g3 n _=g4 at Q Y
 refine ZhP Y (λx5=> ?_)
 have s5:=fr (some (.map (MpE evF .i64 (Zc0 (Zc0 (Zc0 (Zc0 [] 2 ZC) 3 QJ) 4 QW) 5 X7)))) Q
 generalize upd g4 n _=g5 at s5 x5
 refine ZhP x5 (λV=> ?_)
 have Z:=fr (some (.map (MpE evF .i64 (Zc0 (Zc0 (Zc0 (Zc0 (Zc0 [] 2 ZC) 3 QJ) 4 QW) 5 X7) 6 Xaj)))) s5
 generalize upd g5 n _=g6 at Z V
 refine ZhP V (λx7=> ?_)
 have s7:=fr (some (.map (MpE evF .i64 (Zc0 (Zc0 (Zc0 (Zc0 (Zc0 (Zc0 [] 2 ZC) 3 QJ) 4 QW) 5 X7) 6 Xaj) 7 ZaA)))) Z
 exact Ja (Sub.refl _) (hK _ _ _ s7 x7)
theorem ZfH (op:Int) (hb:0≤b) (V: ∀g' n',Sub g g'→K (.tuple #[.int .u64 (if 2≤op∧op≤7 then ZhO op a b else 0),.bool (decide (2≤op∧op≤7))]) g' n'):
  AC XdE [.int .i64 op,.int .u64 a,.int .u64 b] g n K:=by
 refine ACalls.fold Xb ?_
 rw [←Xgp]
 simp only [Zhk]
 refine ZfW (λl U n1 O x1=> ?_)
 by_cases hop:2≤op∧op≤7
 ·rw [if_pos hop,decide_eq_true hop] at V
  have go: ∀f,Xhe QgX op=some f→(∀j n2,Sub g j→AC f [.int .u64 a,.int .u64 b] j n2 λv g' n'=>v= .int .u64 (ZhO op a b)∧g'=j)→
    Qce .i64 (.map (some l)) (.int .i64 op) (.agg #[.nilFunc]) true U λJ=>Qc J 0 λY=>Qc J 1 λac=>Zl [.nilFunc] .exact U n1 λl8 j n8=>Jj Y λE=>
     E.length=1∧Qu j l8 0 E λg3=>kUn .not ac λad=>Qa ad (Zc K (.tuple #[(.int .u64 0),(.bool false)]) g3 n8) (kLd g3 l8 (0+0) λaa=>Qbu AC aa [.int .u64 a,.int .u64 b] g3 n8 λZ g4 ab=>Zc K (.tuple #[Z,(.bool true)]) g4 ab):=by
   intro f hf hc
   refine Qd5 (ev:=evF) x1 ?_
   rw [hf]
   show Qc (.tuple [evF f,.bool true].toArray) 0 _
   refine Jar rfl (Jar rfl ?_)
   intro I
   have s2:=O.trans ((Sub.refl U).new I (some (.cells [.nilFunc] .exact)))
   show Jj (.agg [Value.func (.func f) #[] #[]].toArray) _
   rw [Xe]
   refine ⟨rfl,Xt (Xa _ _ _) rfl (Nat.le_of_ble_eq_true rfl) (by simp [isCell]) ?_⟩
   have Q:=s2.upd_fresh (some (.cells (splice [.nilFunc] 0 [Value.func (.func f) #[] #[]]) .exact)) (O.none I)
   refine XaC (Jc rfl ?_)
   refine Zb (Xa _ _ _) (show (splice [.nilFunc] 0 [Value.func (.func f) #[] #[]])[0]? =some (Value.func (.func f) #[] #[]) from rfl) ?_
   show AC f [.int .u64 a,.int .u64 b] _ _ _
   refine ACalls.mono Xb _ _ _ _ _ _ ?_ (hc _ _ Q)
   rintro v g' n' ⟨rfl,rfl⟩
   exact Ja (Sub.refl _) (V _ _ Q)
  have h6:op=2∨op=3∨op=4∨op=5∨op=6∨op=7:=by omega
  rcases h6 with rfl|rfl|rfl|rfl|rfl|rfl
  ·exact go _ rfl λj n2 _=>JfM λ_=>⟨rfl,rfl⟩
  ·exact go _ rfl λj n2 _=>QfW λ_=>⟨rfl,rfl⟩
  ·exact go _ rfl λj n2 _=>JfR λ_=>⟨rfl,rfl⟩
  ·exact go _ rfl λj n2 _=>Qf7 λ_=>⟨rfl,rfl⟩
  ·exact go _ rfl λj n2 _=>QfY hb λ_=>⟨rfl,rfl⟩
  ·exact go _ rfl λj n2 _=>ZfM hb λ_=>⟨rfl,rfl⟩
 ·rw [if_neg hop,decide_eq_false hop] at V
  have ae:Xhe QgX op=none:=by
   have: ∀(ms:List (Int×FuncId)),(∀p∈ms,p.1≠op)→Xhe ms op=none:=by
    intro ms
    induction ms with
    | nil=>intro _;rfl
    | cons p ms ih=>
     intro h
     obtain ⟨k,f⟩:=p
     have h1:=h (k,f) (List.mem_cons_self ..)
     simp only [Xhe]
     rw [if_neg (λe=>h1 e.symm)]
     exact ih (λq hq=>h q (List.mem_cons_of_mem _ hq))
   refine this _ (λp hp=> ?_)
   simp only [QgX,List.mem_cons,List.not_mem_nil,or_false] at hp
   rcases hp with rfl|rfl|rfl|rfl|rfl|rfl<;>simp only<;>omega
  refine Qd5 (ev:=evF) x1 ?_
  rw [ae]
  show Qc (.tuple [Value.agg #[.nilFunc],.bool false].toArray) 0 _
  refine Jar rfl (Jar rfl ?_)
  intro I
  have s2:=O.trans ((Sub.refl U).new I (some (.cells [.nilFunc] .exact)))
  show Jj (.agg [Value.nilFunc].toArray) _
  rw [Xe]
  refine ⟨rfl,Xt (Xa _ _ _) rfl (Nat.le_of_ble_eq_true rfl) (by simp [isCell]) ?_⟩
  have Q:=s2.upd_fresh (some (.cells (splice [.nilFunc] 0 [Value.nilFunc]) .exact)) (O.none I)
  exact XaC (Ze rfl (Ja (Sub.refl _) (V _ _ Q)))
theorem Zez (op:Int) (Q: ∀c n',K (.tuple #[.bool (Zek op a b),.bool c]) g n'):AC Xcz [.int .i64 op,.int .u64 a,.int .u64 b] g n K:=by
 refine ACalls.fold Xb ?_
 rw [←ZeY]
 simp only [Zfp]
 have j: ∀(x c:Bool) (m:Nat),x=Zek op a b→Zc K (.tuple #[.bool x,.bool c]) g m:=λx c m h=>by subst h;exact Ja (Sub.refl _) (Q _ _)
 refine XaB (Jg (λh=>j _ _ _ (by unfold Zek;rw [if_pos h])) (λE=> ?_))
 refine XaB (Jg (λh=>XaB (j _ _ _ (by unfold Zek;rw [if_neg E,if_pos h]))) (λI=> ?_))
 refine XaB (Jg (λh=>Zbq (j _ _ _ (by unfold Zek;rw [if_neg E,if_neg I,if_pos h]))) (λJ=> ?_))
 refine XaB (Jg (λh=>Qcv (j _ _ _ (by unfold Zek;rw [if_neg E,if_neg I,if_neg J,if_pos h]))) (λO=> ?_))
 exact j _ _ _ (by unfold Zek;rw [if_neg E,if_neg I,if_neg J,if_neg O])
theorem QgT (j: ∀n',K (.int .u64 (Xh7 a b)) g n'):AC Jc5 [.int .u64 a,.int .i64 b] g n K:=by
 refine ACalls.fold Xb ?_
 rw [←Jf3]
 simp only [Jgy,Xbi,Jf]
 exact Ja (Sub.refl _) (j _)
theorem Qhv {L addr:Int} (O:1≤L∧L≤64) (E:0≤addr) (j:addrOf L addr=none→ ∀n',K (.tuple #[.int .i64 0,.int .i64 0,.int .i64 12]) g n') (I: ∀l w,addrOf L addr=some (l,w)→ ∀n',K (.tuple #[.int .i64 l,.int .i64 w,.int .i64 0]) g n'):
  AC Qc9 [.int .i64 L,.int .u64 addr] g n K:=by
 refine ACalls.fold Xb ?_
 rw [←QfF]
 simp only [ZgN]
 refine Qcv (Jg (λh=>by omega) (λ_=>Qf9 (Jg (λh=>by omega) (λ_=> ?_))))
 rw [Zck]
 refine ⟨by decide,?_⟩
 rw [Int.tmod_eq_emod_of_nonneg E]
 refine Zbq (Jg (λh=> ?_) (λh=> ?_))
 ·exact Ja (Sub.refl _) (j (by unfold addrOf;rw [if_neg (λk=>h k.1)]) _)
 ·rw [Xbi,XeW (by omega) (by omega),Xeo,XeW (by omega) (by omega)]
  refine QeA (Jg (λJ=> ?_) (λJ=> ?_))
  ·exact Ja (Sub.refl _) (j (by unfold addrOf;rw [if_neg (λk=>by omega)]) _)
  ·rw [Xfp]
   refine ⟨by decide,?_⟩
   rw [Int.tdiv_eq_ediv_of_nonneg E,XeW (by omega) (by omega),Xbi,Qg (by omega) (by omega),Zck]
   refine ⟨by decide,?_⟩
   rw [Int.tmod_eq_emod_of_nonneg E,Xfp]
   refine ⟨by decide,?_⟩
   rw [Int.tdiv_eq_ediv_of_nonneg (by omega),XeW (by omega) (by omega),Xbi,Qg (by omega) (by omega)]
   exact Ja (Sub.refl _) (I _ _ (by unfold addrOf;rw [if_pos ⟨by omega,by omega⟩]) _)
end
end
section
variable {g:G} {n:Nat}
section
variable {K:Cont}
theorem Jhd {i:Ins} (J:22<i.op) (I: ∀g' n',Sub g g'→K (.bool false) g' n'):AC XbT [.agg (encI i).toArray] g n K:=by
 refine ACalls.fold Xb ?_
 rw [←Jdu]
 simp only [Xed,Xe]
 intro E
 have j:Sub g (upd g n (some (.cells (encI i) .exact))):=(Sub.refl g).new E _
 have hb:upd g n (some (.cells (encI i) .exact)) n=some (.cells (encI i) .exact):=Xa _ _ _
 generalize upd g n (some (.cells (encI i) .exact))=O at j hb
 refine Zb hb rfl ?_
 have hd:decide (0≤i.op∧i.op≤22)=false:=decide_eq_false (by omega)
 refine ACalls.fold Xb ?_
 rw [←QfZ]
 simp only [JgJ]
 refine Qee (λn2=> ?_)
 rw [hd]
 refine XaC (Ze rfl (Ja (Sub.refl _) ?_))
 refine Zb hb rfl (Qee (λn3=> ?_))
 rw [hd]
 refine XaC (Ze rfl ?_)
 simp only [JaH]
 exact Ze rfl (Ja (Sub.refl _) (I _ _ j))
theorem Zid {x:Int} (E:0≤x) (I:x<18446744073709551616):IntKind.u64.wrap ((BitVec.ofInt 64 x &&& BitVec.ofInt 64 15).toNat:Nat)=x%16:=by
 rw [BitVec.toNat_and,BitVec.toNat_ofInt]
 have hx:(x%((2^64:Nat):Int)).toNat=x.toNat:=by
  rw [Int.emod_eq_of_lt E (by simpa using I)]
 rw [hx]
 have j:(BitVec.ofInt 64 15).toNat=2^4-1:=by decide
 rw [j,Nat.and_two_pow_sub_one_eq_mod]
 rw [XeW (by omega) (by omega)]
 omega
theorem Xgu {x:Int} {K:Value→Prop} (j:0≤x) (E:x<18446744073709551616) (k:K (.int .u64 (x%16))):Jb .int .and (.int .u64 x) (.int .u64 15) K:=by
 simp only [Jb,ZH,true_and]
 rw [show IntKind.u64.bits=64 from rfl,Zid j E];exact k
theorem Xh4 {kk:IntKind} {x s:Int} {m:Nat} {K:Value→Prop} (hs:0≤s) (hm:min s.toNat kk.bits=m) (k:K (.int kk (x/(2^m)))):Jb .int .shr (.int kk x) (.int .u64 s) K:=by
 refine ⟨trivial,hs,?_⟩
 rw [hm,Int.fdiv_eq_ediv_of_nonneg _ (Int.pow_nonneg (by decide))];exact k
def QB:Ins:=⟨0,0,0,0,0⟩
theorem stI {l:Nat} {z e:Ins} {K:G→Prop} (h:g l=some (.cells (encI z) .exact)) (k:upd g l (some (.cells (encI e) .exact)) l=some (.cells (encI e) .exact)→K (upd g l (some (.cells (encI e) .exact)))):(encI e).length=5∧Qu g l 0 (encI e) K:=by
 refine ⟨J8 _,Xt h rfl (by rw [J8,J8];decide) (XdA _) ?_⟩
 rw [Jw (by rw [J8,J8])]
 exact k (Xa _ _ _)
theorem JhD {a b c d e:Int} {K:List Value→Prop} (k:K (encI ⟨a,b,c,d,e⟩)):Qf (encI QB) [(0,none,.int .i64 a),(1,none,.int .i64 b),(2,none,.int .i64 c),(3,none,.int .i64 d),(4,none,.int .i64 e)] K:=by
 refine ⟨rfl,by decide,rfl,Nat.le_of_ble_eq_true rfl,rfl,Nat.le_of_ble_eq_true rfl,rfl,Nat.le_of_ble_eq_true rfl,rfl,Nat.le_of_ble_eq_true rfl,k⟩
def JeW (u:Int):Ins:=(decode u).getD QB
def ZhE (u:Int):Int:=if (decode u).isSome then 0 else 11
theorem Xfi {u:Int} (h0:0≤u) (h1:u<18446744073709551616) (Z: ∀g' n',Sub g g'→K (.tuple #[.agg (encI (JeW u)).toArray,.int .i64 (ZhE u)]) g' n'):AC XbP [.int .u64 u] g n K:=by
 refine ACalls.fold Xb ?_
 rw [←Qet]
 simp only [Qea,Xbi,Xi]
 intro hn
 have s1:Sub g (upd g n (some (.cells (encI QB) .exact))):=(Sub.refl g).new hn _
 have x1:upd g n (some (.cells (encI QB) .exact)) n=some (.cells (encI QB) .exact):=Xa _ _ _
 rw [show IntKind.u8.wrap u=u%256 from rfl,show IntKind.u32.wrap u=u%4294967296 from rfl,Qg (a:=u%256) (by omega) (by omega)]
 refine Xh4 (m:=8) (by decide) rfl (Xgu (by omega) (by omega) ?_)
 refine Xh4 (m:=12) (by decide) rfl (Xgu (by omega) (by omega) ?_)
 refine Xh4 (m:=16) (by decide) rfl (Xgu (by omega) (by omega) ?_)
 refine Xh4 (m:=32) (by decide) rfl ?_
 rw [show (2:Int)^8=256 from rfl,show (2:Int)^12=4096 from rfl,show (2:Int)^16=65536 from rfl,show (2:Int)^32=4294967296 from rfl]
 rw [Qg (a:=u/256%16) (by omega) (by omega),Qg (a:=u/4096%16) (by omega) (by omega),Qg (a:=u/65536%16) (by omega) (by omega)]
 refine JhD ?_
 change Zl (encI QB) .exact (upd g n (some (.cells (encI QB) .exact))) (n+1) _
 generalize upd g n (some (.cells (encI QB) .exact))=Y at s1 x1
 intro O
 have s2:=s1.trans ((Sub.refl Y).new O (some (.cells (encI QB) .exact)))
 have x2:upd Y (n+1) (some (.cells (encI QB) .exact)) (n+1)=some (.cells (encI QB) .exact):=Xa _ _ _
 have y2:=((Sub.refl Y).new O (some (.cells (encI QB) .exact))).live x1
 generalize upd Y (n+1) (some (.cells (encI QB) .exact))=g2 at s2 x2 y2
 rw [Xe]
 refine stI (e:=ZeX u) x2 (λx3=> ?_)
 have s3:=s2.upd_fresh (some (.cells (encI (ZeX u)) .exact)) (s1.none O)
 have V:upd g2 (n+1) (some (.cells (encI (ZeX u)) .exact)) n=some (.cells (encI QB) .exact):=by rw [Zd _ _ (by omega)];exact y2
 generalize upd g2 (n+1) (some (.cells (encI (ZeX u)) .exact))=g3 at s3 x3 V
 refine Xh4 (m:=20) (by decide) rfl ?_
 rw [show (2:Int)^20=1048576 from rfl]
 have bad: ∀(E:G) (m:Nat),Sub g E→E n=some (.cells (encI QB) .exact)→decode u=none→Jj (.agg (encI QB).toArray) λj=>j.length=5∧Qu E n 0 j λE=>Ql E n 0 5 λQ=>Zc K (.tuple #[(.agg Q.toArray),(.int .i64 11)]) E m:=by
  intro E m s4 y4 hd
  rw [Xe]
  refine stI y4 (λy5=>ldI y5 ?_)
  have e1:JeW u=QB:=by unfold JeW;rw [hd];rfl
  have e2:ZhE u=11:=by unfold ZhE;rw [hd];rfl
  rw [e1,e2] at Z
  exact Ja (Sub.refl _) (Z _ _ (s4.upd_fresh _ hn))
 refine Zbq (Jg (λhc=> ?_) (λhc=> ?_))
 ·exact bad _ _ s3 V (by unfold decode;rw [if_neg (λk=>hc k.1)])
 ·have ac:u%4294967296/1048576=0:=by simpa using hc
  refine ldI x3 ?_
  have gd: ∀(b:Bool),(b=true↔(ZeX u).op≤22∧JE (ZeX u)=true)→ ∀J m,Sub g3 J→kUn .not (.bool b) λaa=>Qa aa (Jj (.agg (encI QB).toArray) λj=>j.length=5∧Qu J n 0 j λE=>Ql E n 0 5 λQ=>Zc K (.tuple #[(.agg Q.toArray),(.int .i64 11)]) E m)
    (Ql J (n+1) 0 5 λab=>Jj (.agg ab.toArray) λU=>U.length=5∧Qu J n 0 U λg7=>Ql g7 n 0 5 λQ=>Zc K (.tuple #[(.agg Q.toArray),(.int .i64 0)]) g7 m):=by
   intro b hb J m I
   have s6:=s3.trans I
   refine XaC (Xo (λhx=> ?_) (λhx=> ?_))
   ·refine bad _ _ s6 (I.live V) ?_
    have:b=false:=by simpa using hx
    unfold decode
    rw [if_neg]
    rintro ⟨_,k⟩
    rw [hb.2 k] at this;cases this
   ·have ad:b=true:=by simpa using hx
    have hd:decode u=some (ZeX u):=by
     unfold decode
     rw [if_pos ⟨ac,hb.1 ad⟩]
    have e1:JeW u=ZeX u:=by unfold JeW;rw [hd];rfl
    have e2:ZhE u=0:=by unfold ZhE;rw [hd];rfl
    rw [e1,e2] at Z
    refine ldI (I.live x3) ?_
    rw [Xe]
    refine stI (I.live V) (λy5=>ldI y5 ?_)
    exact Ja (Sub.refl _) (Z _ _ (s6.upd_fresh _ hn))
  by_cases h22:(ZeX u).op≤22
  ·exact Xf7 (JeS h0) h22 (λJ m I=>gd _ (by simp [h22]) _ _ I)
  ·exact Jhd (by omega) (λJ m I=>gd _ (by simp [h22]) _ _ I)
end
end
section
variable {g:G} {n:Nat}
def coC (w:CW) (C:Cr):List Value:=[.int .i64 C.id]++C.r.map (.int .u64 ·)++[.int .i64 C.place,.slice (some ⟨w.lp,0,none⟩) C.us.length C.us.length,ptr w.lb 0,.int .i64 C.waits,.bool C.runs]
structure Cd where
 done:Bool
 u:Int
def Xac (c:Cd):List Value:=[.int .u32 (if c.done then 1 else 0),.int .i32 0,.int .u32 0,.int .u64 c.u]++encI (if c.done then JeW c.u else QB)++[.bool (c.done&&(decode c.u).isSome)]
theorem Xb5 (c:Cd):(Xac c).length=10:=rfl
section
variable {w:CW} {C:Cr}
theorem Zgu (h:C.r.length=8):(coC w C).length=14:=by simp [coC,h]
theorem Zg4 (h:C.r.length=8) (i:Nat):(coC w C)[9+i]? =[Value.int .i64 C.place,.slice (some ⟨w.lp,0,none⟩) C.us.length C.us.length,ptr w.lb 0,.int .i64 C.waits,.bool C.runs][i]? :=by
 unfold coC
 rw [List.getElem?_append_right (by simp [h])]
 congr 1;simp [h]
theorem Qhq (h:C.r.length=8) {j:Int} (E:0≤j) (I:j<8):(coC w C)[1+j.toNat]? =some (.int .u64 (C.reg j)):=by
 unfold coC
 rw [List.getElem?_append_left (by simp [h];omega),List.getElem?_append_right (by simp)]
 rw [show 1+j.toNat-[Value.int .i64 C.id].length=j.toNat by simp,List.getElem?_map]
 unfold Cr.reg
 rw [List.getElem?_eq_getElem (by omega)]
 rfl
theorem Xg1 (h:C.r.length=8) {j:Int} (E:0≤j) (I:j<8) (v:Int):(coC w C).set (1+j.toNat) (.int .u64 v)=coC w (C.setR j v):=by
 unfold coC Cr.setR
 rw [List.set_append_left _ _ (by simp [h];omega),List.set_append_right _ _ (by simp)]
 rw [show 1+j.toNat-[Value.int .i64 C.id].length=j.toNat by simp,List.map_set]
theorem XhG (h:C.r.length=8) (i:Nat) (v:Value):(coC w C).set (9+i) v=[Value.int .i64 C.id]++C.r.map (.int .u64 ·)++[Value.int .i64 C.place,.slice (some ⟨w.lp,0,none⟩) C.us.length C.us.length,ptr w.lb 0,.int .i64 C.waits,.bool C.runs].set i v:=by
 unfold coC
 rw [List.set_append_right _ _ (by simp [h])]
 congr 2;simp [h]
end
structure CoH (o:Col Cl) (g:G) (w:CW) (C:Cr):Prop where
 rl:C.r.length=8
 oc:o w.lc=none
 op:o w.lp=none
 ob:o w.lb=none
 n1:w.lc≠w.lp
 n2:w.lc≠w.lb
 n3:w.lp≠w.lb
 hc:g w.lc=some (.cells (coC w C) .exact)
 hp: ∃ds:List Cd,ds.map (·.u)=C.us∧g w.lp=some (.cells (ds.map Xac).flatten .exact)
 hb:BufH g w.lb C.room C.b
section
variable {o:Col Cl} {w:CW} {C:Cr}
theorem CoH.keep {o':Col Cl} {g':G} (h:CoH o g w C) (k: ∀l b,w.mem l→o l=none→g l=some b→o' l=none∧g' l=some b):CoH o' g' w C:=by
 obtain ⟨ds,e1,e2⟩:=h.hp
 obtain ⟨L,f,j⟩:=id h.hb
 have k1:=k _ _ (.inl rfl) h.oc h.hc
 have E:=k _ _ (.inr (.inl rfl)) h.op e2
 have I:=k _ _ (.inr (.inr rfl)) h.ob j.hb
 exact ⟨h.rl,k1.1,E.1,I.1,h.n1,h.n2,h.n3,k1.2,⟨ds,e1,E.2⟩,h.hb.eq (I.2.trans j.hb.symm)⟩
theorem CoH.unc {o':Col Cl} {g':G} (h:CoH o g w C) (k:Sub (unc o g) (unc o' g')):CoH o' g' w C:=h.keep λ_ _ _ E j=>QaX E j k
theorem CoH.mono {g':G} (h:CoH o g w C) (k:Sub g g'):CoH o g' w C:=h.keep λ_ _ _ E j=>⟨E,k.live j⟩
theorem CoH.setC {C':Cr} (h:CoH o g w C) (E:C'.r.length=8) (J:C'.us=C.us) (j:C'.room=C.room) (I:C'.b=C.b):CoH o (upd g w.lc (some (.cells (coC w C') .exact))) w C':=by
 obtain ⟨ds,e1,e2⟩:=h.hp
 refine ⟨E,h.oc,h.op,h.ob,h.n1,h.n2,h.n3,Xa _ _ _,⟨ds,by rw [J];exact e1,by rw [Zd _ _ (Ne.symm h.n1)];exact e2⟩,?_⟩
 rw [j,I]
 exact h.hb.eq (Zd _ _ (Ne.symm h.n2))
theorem CoH.buf {g':G} {j:List SE} (h:CoH o g w C) (hc:Chg (λx=>x=w.lb) g g') (hb:BufH g' w.lb C.room j):CoH o g' w { C with b:=j }:=by
 obtain ⟨ds,e1,e2⟩:=h.hp
 exact ⟨h.rl,h.oc,h.op,h.ob,h.n1,h.n2,h.n3,hc.live h.n2 h.hc,⟨ds,e1,hc.live h.n3 e2⟩,hb⟩
theorem CoH.code {ds:List Cd} (h:CoH o g w C) (hd:ds.map (·.u)=C.us):CoH o (upd g w.lp (some (.cells (ds.map Xac).flatten .exact))) w C:=
 ⟨h.rl,h.oc,h.op,h.ob,h.n1,h.n2,h.n3,by rw [Zd _ _ h.n1];exact h.hc,⟨ds,hd,Xa _ _ _⟩,h.hb.eq (Zd _ _ (Ne.symm h.n3))⟩
end
def xC (w:CW) (ls:Nat) (i:Ins) (v:Value):List Value:=[ptr w.lc 0,ptr ls 0]++encI i++[v]
def CW.N (w:CW) (lx:Nat):List Nat:=[lx,w.lc,w.lp,w.lb]
structure StH (F:G) (o:Col Cl) (g:G) (lx ls:Nat) (W:QaI) (w:CW) (S:Sys) (C:Cr) (i:Ins) (evs:List Evt):Prop where
 sys:SysH o g ls W S
 co:CoH o g w C
 ox:o lx=none
 nx: ¬w.mem lx
 fx:F lx=none
 fr:Sub F (un w o g)
 hx: ∃v,g lx=some (.cells (xC w ls i v) .exact)∧OutH Xbb 5 F (w.N lx) o g v evs
section
variable {F:G} {o:Col Cl} {lx ls:Nat} {W:QaI} {w:CW} {S:Sys} {C:Cr} {i:Ins} {evs:List Evt} {K:Cont}
theorem StH.sysop {o':Col Cl} {g':G} {W':QaI} {S':Sys} (h:StH F o g lx ls W w S C i evs) (k:Sub (unc o g) (unc o' g')) (hs:SysH o' g' ls W' S'):StH F o' g' lx ls W' w S' C i evs:=by
 obtain ⟨v,hx,j⟩:=h.hx
 have k1:=QaX h.ox hx k
 exact ⟨hs,h.co.unc k,k1.1,h.nx,h.fx,h.fr.trans (JdJ k),v,k1.2,j.unc k⟩
theorem StH.mono {g':G} (h:StH F o g lx ls W w S C i evs) (k:Sub g g'):StH F o g' lx ls W w S C i evs:=h.sysop (Sub.uncs h.sys.live k) (h.sys.mono k)
theorem StH.lcne (h:StH F o g lx ls W w S C i evs):lx≠w.lc:=λe=>h.nx (.inl e)
theorem StH.setC {C':Cr} (h:StH F o g lx ls W w S C i evs) (I:C'.r.length=8) (E:C'.us=C.us) (j:C'.room=C.room) (J:C'.b=C.b):StH F o (upd g w.lc (some (.cells (coC w C') .exact))) lx ls W w S C' i evs:=by
 obtain ⟨v,hx,O⟩:=h.hx
 exact ⟨h.sys.same (QbK h.co.oc _),h.co.setC I E j J,h.ox,h.nx,h.fx,by rw [Qhn (.inl rfl)];exact h.fr,v,by rw [Zd _ _ h.lcne];exact hx,O.upd (by simp [CW.N])⟩
theorem Xfv {X:Nat→Prop} {g':G} (j:Live o g) (hc:Chg X g g') (E: ∀l,X l→o l=none):Same o g g':=λl c e=>by
 obtain ⟨b,hb⟩:=j l c e
 rw [hb]
 exact hc.live (λh=>by rw [E l h] at e;cases e) hb
theorem Jhn {X:Nat→Prop} {g':G} (E:Sub F (un w o g)) (hc:Chg X g g') (J: ∀l,X l→w.mem l):Sub F (un w o g'):=λl=>by
 cases e:F l with
 | none=>exact .inl rfl
 | some b=>
  obtain ⟨j,O,I⟩:=Xbv (E.live e)
  refine .inr ?_
  rw [ZdN j O,hc.live (λh=>j (J l h)) I]
theorem StH.buf {g':G} {E:List SE} (h:StH F o g lx ls W w S C i evs) (hc:Chg (λx=>x=w.lb) g g') (hb:BufH g' w.lb C.room E):StH F o g' lx ls W w S { C with b:=E } i evs:=by
 obtain ⟨v,hx,O⟩:=h.hx
 refine ⟨h.sys.same (Xfv h.sys.live hc (λl e=>by rw [e];exact h.co.ob)),h.co.buf hc hb,h.ox,h.nx,h.fx,Jhn h.fr hc (λl e=> .inr (.inr e)),v,hc.live (λe=>h.nx (.inr (.inr e))) hx,?_⟩
 refine O.keep λl b I j J=>⟨j,hc.live (λe=>I ?_) J⟩
 rw [e];simp [CW.N]
theorem StH.ldx (h:StH F o g lx ls W w S C i evs) {k:Nat} {v:Value} {K:Value→Prop} (E:([ptr w.lc 0,ptr ls 0]++encI i)[k]? =some v) (kk:K v):kLd g lx (0+k) K:=by
 obtain ⟨I,hx,_⟩:=h.hx
 have j:=Xg E
 refine Zb hx (show (xC w ls i I)[0+k]? =some v from ?_) kk
 rw [Nat.zero_add]
 unfold xC
 rw [List.getElem?_append_left j]
 exact E
theorem StH.ldc (h:StH F o g lx ls W w S C i evs) {K:Value→Prop} (kk:K (ptr w.lc 0)):kLd g lx (0+0) K:=h.ldx rfl kk
theorem StH.lds (h:StH F o g lx ls W w S C i evs) {K:Value→Prop} (kk:K (ptr ls 0)):kLd g lx (0+1) K:=h.ldx rfl kk
theorem CoH.ld (h:CoH o g w C) {k:Nat} {v:Value} {K:Value→Prop} (j:(coC w C)[k]? =some v) (kk:K v):kLd g w.lc (0+k) K:=Zb h.hc (by rw [Nat.zero_add];exact j) kk
theorem CoH.ldid (h:CoH o g w C) {K:Value→Prop} (kk:K (.int .i64 C.id)):kLd g w.lc (0+0) K:=h.ld rfl kk
theorem CoH.ldt (h:CoH o g w C) {k:Nat} {v:Value} {K:Value→Prop} (j:[Value.int .i64 C.place,.slice (some ⟨w.lp,0,none⟩) C.us.length C.us.length,ptr w.lb 0,.int .i64 C.waits,.bool C.runs][k]? =some v) (kk:K v):kLd g w.lc (0+(9+k)) K:=h.ld ((Zg4 h.rl k).trans j) kk
theorem CoH.st (h:CoH o g w C) {k:Nat} {v:Value} {C':Cr} {K:G→Prop} (E:k<5) (j:isCell v=true) (he:[Value.int .i64 C.id]++C.r.map (.int .u64 ·)++[Value.int .i64 C.place,.slice (some ⟨w.lp,0,none⟩) C.us.length C.us.length,ptr w.lb 0,.int .i64 C.waits,.bool C.runs].set k v=coC w C')
  (kk:K (upd g w.lc (some (.cells (coC w C') .exact)))):kSt g w.lc (0+(9+k)) v K:=by
 refine Qz h.hc rfl (by rw [Zgu h.rl];omega) j ?_
 rw [Nat.zero_add,XhG h.rl,he];exact kk
theorem XaZ (h:StH F o g lx ls W w S C i evs) (hp: -1≤C.place∧C.place≤2147483648) (j: ∀v g' n',StH F o g' lx ls W w S C.next i evs→K v g' n'):AC Xs [ptr lx 0] g n K:=by
 refine ACalls.fold Xb ?_
 rw [←JbF]
 simp only [Xbu,Qd,Qb]
 refine h.ldc ?_
 simp only [Qd,Qb]
 refine h.co.ldt (k:=0) rfl ?_
 rw [Jf,Qg (by omega) (by omega)]
 refine h.co.st (k:=0) (C':=C.next) (by decide) rfl rfl ?_
 exact Ja (Sub.refl _) (j _ _ _ (h.setC h.co.rl rfl rfl rfl))
theorem XhF {a b c d e:Int} {K:List Value→Prop} (k:K (Xbb ⟨a,b,c,d,e⟩)):Qf [.int .i64 0,.int .i64 0,.int .i64 0,.int .i64 0,.int .u64 0] [(0,none,.int .i64 a),(1,none,.int .i64 b),(2,none,.int .i64 c),(3,none,.int .i64 d),(4,none,.int .u64 e)] K:=
 ⟨rfl,by decide,rfl,Nat.le_of_ble_eq_true rfl,rfl,Nat.le_of_ble_eq_true rfl,rfl,Nat.le_of_ble_eq_true rfl,rfl,Nat.le_of_ble_eq_true rfl,k⟩
theorem Qfm {e:Evt} {K:List Value→Prop} (k:K (Xbb e)):Qf (reps 1 [.int .i64 0,.int .i64 0,.int .i64 0,.int .i64 0,.int .u64 0]) [(0,(some 5),(.agg (Xbb e).toArray))] K:=⟨rfl,by decide,k⟩
theorem Qac (h:StH F o g lx ls W w S C i evs) (Y:evs.length<1000) (kind line word val:Int) (hK: ∀v g' n',StH F o g' lx ls W w S C i (evs++[C.ev kind line word val])→K v g' n'):
  AC Zm [ptr lx 0,.int .i64 kind,.int .i64 line,.int .i64 word,.int .u64 val] g n K:=by
 refine ACalls.fold Xb ?_
 rw [←JcX]
 simp only [Qb6,Qd,Qb]
 obtain ⟨v,hx,ho⟩:=id h.hx
 refine Zb hx (show (xC w ls i v)[0+7]? =some v from rfl) ?_
 refine h.ldc ?_
 simp only [Qd,Qb]
 refine h.co.ldid (XhF (Qfm ?_))
 intro V
 have Z:=(Sub.refl g).new V (some (.cells (Xbb ⟨kind,C.id,line,word,val⟩) .exact))
 have x1:upd g n (some (.cells (Xbb ⟨kind,C.id,line,word,val⟩) .exact)) n=some (.cells (Xbb ⟨kind,C.id,line,word,val⟩) .exact):=Xa _ _ _
 have aa:n≠lx:=λe=>by rw [e,hx] at V;cases V
 have j:=h.mono Z
 have J:OutH Xbb 5 F (w.N lx) o (upd g n (some (.cells (Xbb ⟨kind,C.id,line,word,val⟩) .exact))) v evs:=ho.new V
 have E:=Z.live hx
 refine ⟨Zd _ _ (Ne.symm aa),?_⟩
 generalize upd g n (some (.cells (Xbb ⟨kind,C.id,line,word,val⟩) .exact))=g1 at Z x1 j J E
 obtain ⟨ds,e1,e2⟩:=j.co.hp
 obtain ⟨L,f,hr⟩:=id j.co.hb
 refine J.append (ys:=[C.ev kind line word val]) JaC j.sys.live ?_ ?_ (Sl.one (JaC _) x1) JdD (by decide) (by rw [List.length_singleton];omega) (by rw [List.length_singleton];omega) (λv' g2 n2 k1 k2 O=> ?_)
 ·intro l Y
  simp only [CW.N,List.mem_cons,List.not_mem_nil,or_false] at Y
  rcases Y with rfl|rfl|rfl|rfl
  ·exact ⟨_,E⟩
  ·exact ⟨_,j.co.hc⟩
  ·exact ⟨_,e2⟩
  ·exact ⟨_,hr.hb⟩
 ·intro l b hF
  exact ⟨_,(Xbv (j.fr.live hF)).2.2⟩
 have ab:g2 lx=some (.cells (xC w ls i v) .exact):=(k1 lx (.inl (by simp [CW.N]))).trans E
 have Q: ∀l,w.mem l→l∈w.N lx:=by
  rintro l (rfl|rfl|rfl)<;>simp [CW.N]
 refine Qz ab rfl (by simp [xC,encI]) O.cellOk ?_
 have U:(xC w ls i v).set (0+7) v'=xC w ls i v':=rfl
 rw [U]
 refine Ja (Sub.refl _) (hK _ _ _ ⟨?_,?_,h.ox,h.nx,h.fx,?_,v',Xa _ _ _,O.upd (by simp [CW.N])⟩)
 ·refine (j.sys.same (g':=g2) (λl c e=>k1 l (.inr (.inr (by rw [e];simp))))).same (QbK h.ox _)
 ·refine (j.co.keep (o':=o) (g':=g2) (λl b hm I hg=>⟨I,(k1 l (.inl (Q l hm))).trans hg⟩)).keep (λl b hm I hg=>⟨I,?_⟩)
  rw [Zd _ _ (λe=>h.nx (by rw [←e];exact hm))];exact hg
 ·refine Qeg (λl=> ?_) h.fx _
  cases e:F l with
  | none=>exact .inl rfl
  | some b=>
   obtain ⟨q1,q2,q3⟩:=Xbv (j.fr.live e)
   refine .inr ?_
   rw [ZdN q1 q2,k1 l (.inr (.inl (by rw [e];simp))),q3]
theorem JeQ (h:StH F o g lx ls W w S C i evs) (E:evs.length<1000) (I: ∀v g' n',StH F o g' lx ls W w S { C with runs:=false } i (evs++[C.ev 10 0 0 0])→K v g' n'):AC Jas [ptr lx 0] g n K:=by
 refine ACalls.fold Xb ?_
 rw [←Xda]
 simp only [Jcv]
 refine Qac h E _ _ _ _ (λv J n1 j=> ?_)
 simp only [Qd,Qb]
 refine j.ldc ?_
 simp only [Qd,Qb]
 refine j.co.st (k:=4) (C':={ C with runs:=false }) (by decide) rfl rfl ?_
 exact Ja (Sub.refl _) (I _ _ _ (j.setC j.co.rl rfl rfl rfl))
theorem Zd3 (h:StH F o g lx ls W w S C i evs) (j: ∀n',K (.bool C.still) g n'):AC Zal [ptr lx 0] g n K:=by
 refine ACalls.fold Xb ?_
 rw [←ZcZ]
 simp only [Qb8,Qd,Qb]
 refine h.ldc ?_
 simp only [Qd,Qb]
 refine h.co.ldt (k:=2) rfl ?_
 refine JcY h.co.hb (λn1=> ?_)
 refine XaB (Jg (λE=> ?_) (λE=> ?_))
 ·refine h.ldc ?_
  simp only [Qd,Qb]
  refine h.co.ldt (k:=3) rfl (XaB ?_)
  have hb:C.b=[]:=List.eq_nil_of_length_eq_zero (by omega)
  have e:C.still=decide (C.waits=0):=by unfold Cr.still;rw [hb];rfl
  rw [e] at j
  exact Ja (Sub.refl _) (j _)
 ·have e:C.still=false:=by
   unfold Cr.still
   cases hb:C.b with
   | nil=>rw [hb] at E;exact absurd rfl E
   | cons a t=>rfl
  rw [e] at j
  exact Ja (Sub.refl _) (j _)
end
end
section
variable {g:G} {n:Nat}
section
variable {F:G} {o:Col Cl} {lx ls:Nat} {W:QaI} {w:CW} {S:Sys} {C:Cr} {i:Ins} {evs:List Evt} {K:Cont}
theorem StH.ldi (h:StH F o g lx ls W w S C i evs) {k:Nat} {v:Value} {K:Value→Prop} (j:(encI i)[k]? =some v) (kk:K v):kLd g lx (0+2+k) K:=by
 have:=h.ldx (k:=2+k) (v:=v) (K:=K) (by rw [List.getElem?_append_right (by simp)];simpa using j) kk
 rwa [show 0+(2+k)=0+2+k by omega] at this
theorem CoH.atr (h:CoH o g w C) {j:Int} {p:Value} {K:Value→Prop} (E:0≤j∧j≤7) (hp:p=ptr w.lc (0+1+j.toNat*1)) (kk:K (.int .u64 (C.reg j))):Xc p λl o=>kLd g l o K:=by
 subst hp
 rw [Qb]
 refine Zb h.hc ?_ kk
 rw [show 0+1+j.toNat*1=1+j.toNat by omega]
 exact Qhq h.rl E.1 (by omega)
theorem sub_eq {g':G} {l:Nat} {b:Blk} (hs:Sub g g') (h:g l=some b):g' l=g l:=(hs.live h).trans h.symm
theorem StH.str (h:StH F o g lx ls W w S C i evs) {j v:Int} {K:G→Prop} (E:0≤j∧j≤7) (kk: ∀g',StH F o g' lx ls W w S (C.setR j v) i evs→K g'):Ji (ptr w.lc (0+1)) (.int .i64 j) 8 1 λp=>Xc p λl o=>kSt g l o (.int .u64 v) K:=by
 refine Jeu E.1 (by omega) ?_
 rw [Qb]
 refine Qz h.co.hc rfl (by rw [Zgu h.co.rl];omega) rfl ?_
 rw [show 0+1+j.toNat*1=1+j.toNat by omega,Xg1 h.co.rl E.1 (by omega)]
 exact kk _ (h.setC (by simp [Cr.setR,h.co.rl]) rfl rfl rfl)
def Done (F:G) (lx ls:Nat) (w:CW) (i:Ins) (evs:List Evt) (K:Cont) (R:Res):Prop:= ∀v o' g' n' W',StH F o' g' lx ls W' w R.2.1 R.1 i (evs++R.2.2)→K v g' n'
theorem Done.of {R:Res} (j:Done F lx ls w i evs K R) {v:Value} {m:Nat} (h:StH F o g lx ls W w S C i evs) (e:R=(C,S,[])):Zc K v g m:=by
 subst e
 have:=j v o g m W
 rw [List.append_nil] at this
 exact Ja (Sub.refl _) (this h)
theorem Jee (h:StH F o g lx ls W w S C i evs) (U:1≤S.c.lines∧S.c.lines≤64) (hb:0≤i.b∧i.b≤7) (Q:evs.length<1000)
  (I:C.at S.c.lines i=none→ ∀g' n',StH F o g' lx ls W w S { C with runs:=false } i (evs++[C.ev 10 0 0 0])→K (.tuple #[.int .i64 0,.int .i64 0,.bool false]) g' n')
  (E: ∀l x,C.at S.c.lines i=some (l,x)→ ∀g' n',StH F o g' lx ls W w S C i evs→K (.tuple #[.int .i64 l,.int .i64 x,.bool true]) g' n'):AC Xaq [ptr lx 0] g n K:=by
 refine ACalls.fold Xb ?_
 rw [←Zds]
 simp only [Xdc,Qd,Qb]
 refine h.lds (h.ldc ?_)
 refine h.ldi (k:=2) rfl ?_
 simp only [Qd,Qb]
 refine Jeu hb.1 (by omega) ?_
 refine h.co.atr hb rfl ?_
 refine h.ldi (k:=4) rfl ?_
 refine Jca h.sys (λg1 n1 j=> ?_)
 obtain ⟨v,hx,_⟩:=id h.hx
 have ex:=sub_eq j hx
 have ec:=sub_eq j h.co.hc
 refine ⟨ex,ex,ec,ex,?_⟩
 have O:=h.mono j
 rw [Xe]
 simp only [Xbf]
 refine Jci (v:= .int .i64 S.c.lines) rfl ?_
 refine QgT (λn2=> ?_)
 refine Qhv U (ZgJ _ _) (λJ n3=> ?_) (λl x J n3=> ?_)
 ·refine Jar rfl (Jar rfl (Jar rfl (Zbq (Ze rfl ?_))))
  refine JeQ O Q (λv Y Z V=> ?_)
  exact Ja (Sub.refl _) (I J _ _ V)
 ·refine Jar rfl (Jar rfl (Jar rfl (Zbq (Jc rfl ?_))))
  exact Ja (Sub.refl _) (E l x J _ _ O)
theorem XfH (h:StH F o g lx ls W w S C i evs) (hf:S.fit) (hL:1≤S.c.lines∧S.c.lines≤64) (hg:JE i=true) (hl:evs.length<900) (hp:0≤C.place∧C.place<4096) (O:Done F lx ls w i evs K (C.loadX S i)):
  AC JaT [ptr lx 0] g n K:=by
 obtain ⟨ra,rb,rc,_⟩:=Xbm hg
 refine ACalls.fold Xb ?_
 rw [←Jc1]
 simp only [Jcw]
 refine Jee h hL rb (by omega) (λI g1 n1 E=> ?_) (λl x I g1 n1 E=> ?_)
 ·refine Jar rfl (Jar rfl (Jar rfl (XaC (Ze rfl ?_))))
  have e:C.loadX S i=C.trap S:=by unfold Cr.loadX;rw [I]
  rw [e] at O
  exact Ja (Sub.refl _) (O _ _ _ _ _ E)
 ·refine Jar rfl (Jar rfl (Jar rfl (XaC (Jc rfl ?_))))
  have V: ∀(t:Env) {o:Col Cl} {W:QaI} {S':Sys} (U:G) (m:Nat) (kind v:Int),t 0=ptr lx 0→t 5= .int .i64 kind→t 2= .int .i64 l→t 3= .int .i64 x→t 6= .int .u64 v→StH F o U lx ls W w S' C i evs→
    C.loadX S i=((C.setR i.a v).next,S',[C.ev kind l x v])→Qau AC K t U m:=by
   intro t o W S' U m kind v t0 Z Y t3 t6 j e
   rw [e] at O
   simp only [Qau,t0,Z,Y,t3,t6]
   refine Qac j (by omega) _ _ _ _ (λv' g3 n3 Q=> ?_)
   simp only [Qd,Qb]
   refine Q.ldc ?_
   refine Q.ldi (k:=1) rfl ?_
   simp only [Qd,Qb]
   refine Q.str ra (λg4 h4=> ?_)
   refine XaZ h4 (by show -1≤C.place∧C.place≤2147483648;omega) (λv5 g5 n5 h5=> ?_)
   exact Ja (Sub.refl _) (O _ _ _ _ _ h5)
  simp only [Qd,Qb]
  refine E.ldc ?_
  simp only [Qd,Qb]
  refine E.co.ldt (k:=2) rfl ?_
  refine Xf1 E.co.hb l x (λU n2 s2=> ?_)
  have j:=E.mono s2
  refine Jar rfl (Jar rfl (XaC ?_))
  cases hfd:ZcW C.b l x with
  | some v=>
   refine Jc rfl ?_
   exact V _ _ _ 2 v rfl rfl rfl rfl rfl j (by unfold Cr.loadX;rw [I];simp only;rw [hfd])
  | none=>
   refine Ze rfl ?_
   refine j.lds (j.ldc ?_)
   simp only [Qd,Qb]
   refine j.co.ldid ?_
   refine Qd9 j.sys hf _ _ _ (λo3 g3 n3 W3 u3 Q=> ?_)
   have J:=j.sysop u3 Q
   refine Jar rfl (Jar rfl (XaC ?_))
   refine Xo (λhb=> ?_) (λhb=> ?_)
   ·exact O.of (R:=C.loadX S i) (S:=(S.load C.id l x).1) (by
     have e:C.loadX S i=(C,(S.load C.id l x).1,[]):=by
      unfold Cr.loadX;rw [I];simp only;rw [hfd];simp only;rw [if_neg (by simpa using hb)]
     exact J) (by
      unfold Cr.loadX;rw [I];simp only;rw [hfd];simp only;rw [if_neg (by simpa using hb)])
   ·exact V _ _ _ 1 _ rfl rfl rfl rfl rfl J (by unfold Cr.loadX;rw [I];simp only;rw [hfd];simp only;rw [if_pos (by simpa using hb)])
theorem Jfa (h:StH F o g lx ls W w S C i evs) (U:evs.length<900) (hp:0≤C.place∧C.place<4096) (j:Done F lx ls w i evs K (C.fenceX S)):AC XaM [ptr lx 0] g n K:=by
 refine ACalls.fold Xb ?_
 rw [←JcK]
 simp only [Zb6]
 refine Zd3 h (λn1=>Xo (λhs=> ?_) (λhs=> ?_))
 ·have e:C.fenceX S=(C.next,S,[C.ev 7 0 0 0]):=by unfold Cr.fenceX;rw [if_pos hs]
  rw [e] at j
  refine Qac h (by omega) _ _ _ _ (λv J n2 I=> ?_)
  refine XaZ I (by omega) (λO Q n3 E=> ?_)
  exact Ja (Sub.refl _) (j _ _ _ _ _ E)
 ·exact j.of h (by unfold Cr.fenceX;rw [if_neg (by rw [hs];decide)])
theorem Qg6 {a l:Int} {K:List Value→Prop} (k:K (Qj ⟨a,l,0,0,false⟩)):Qf [.int .i64 0,.int .i64 0,.int .i64 0,.int .u64 0,.bool false] [(0,none,.int .i64 a),(1,none,.int .i64 l)] K:=
 ⟨rfl,by decide,rfl,Nat.le_of_ble_eq_true rfl,k⟩
theorem Qgc (h:StH F o g lx ls W w S C i evs) (hL:1≤S.c.lines∧S.c.lines≤64) (hg:JE i=true) (hi:i.op=9∨i.op=12∨i.op=13∨i.op=14) (hr:C.room≤16) (hl:evs.length<900) (hp:0≤C.place∧C.place<4096)
  (Q:Done F lx ls w i evs K (C.putX S i)):AC Xy [ptr lx 0] g n K:=by
 obtain ⟨ra,rb,rc,_⟩:=Xbm hg
 refine ACalls.fold Xb ?_
 rw [←Xdk]
 simp only [QbN,Zbe]
 refine Jee h hL rb (by omega) (λha O n1 I=> ?_) (λl x ha O n1 I=> ?_)
 ·refine Jar rfl (Jar rfl (Jar rfl (XaC (Ze rfl ?_))))
  have e:C.putX S i=C.trap S:=by unfold Cr.putX;rw [ha]
  rw [e] at Q
  exact Ja (Sub.refl _) (Q _ _ _ _ _ I)
 ·refine Jar rfl (Jar rfl (Jar rfl (XaC (Jc rfl ?_))))
  have ac:=Cr.at_rng ha
  have jj: ∀(t:Env) (U:G) (m l5:Nat) (e:SE),t 0=ptr lx 0→t 5=ptr l5 0→t 2= .int .i64 l→t 3= .int .i64 x→StH F o U lx ls W w S C i evs→U l5=some (.cells (Qj e) .exact)→l5≠lx→ ¬w.mem l5→o l5=none→e=C.entry i l x→
    J6 AC K (XE AC K) t U m:=by
   intro t U m l5 e t0 t5 t2 t3 E x5 n5 m5 o5 he
   simp only [J6,t0,t5,Qd,Qb]
   refine E.ldc ?_
   simp only [Qd,Qb]
   refine E.co.ldt (k:=2) rfl ?_
   refine ZhC x5 ?_
   have aa:e.good=true:=by rw [he];exact Cr.entry_good hi (by omega) (by omega)
   refine QfG E.co.hb hr e (λhb=>by rw [aa] at hb;cases hb) (λ_ Z g3 n3 s3=> ?_) (λ_ ab g3 n3 c3 b3=> ?_)
   ·refine Zbq (Ze rfl ?_)
    exact Q.of (E.mono s3) (by unfold Cr.putX;rw [ha];simp only;rw [if_pos Z])
   ·refine Zbq (Jc rfl ?_)
    have h3:=E.buf c3 b3
    have x6:=c3.live (λhb=>m5 (.inr (.inr hb))) x5
    have ex:C.putX S i=({ C with b:=C.b++[e] }.next,S,[if i.op=9 then C.ev 12 l x (C.reg i.a) else C.ev 14 l 0 0]):=by
     unfold Cr.putX;rw [ha];simp only;rw [if_neg (by omega),he]
    rw [ex] at Q
    have p0: ∀(t':Env),t' 0=ptr lx 0→t' 5=ptr l5 0→t' 2= .int .i64 l→t' 3= .int .i64 x→XE AC K t' g3 n3:=by
     intro t' q0 q5 q2 q3
     simp only [XE,q0,q5,q2,q3,Qd,Qb]
     refine h3.ldi (k:=0) rfl (XaB (Jg (λJ=> ?_) (λJ=> ?_)))
     ·rw [if_pos J] at Q
      have hv:(Qj e)[0+3]? =some (.int .u64 (C.reg i.a)):=by rw [he];unfold Cr.entry;rw [if_pos J];rfl
      refine Zb x6 hv ?_
      refine Qac h3 (by omega) _ _ _ _ (λv g4 n4 h4=> ?_)
      refine XaZ h4 (by show -1≤C.place∧C.place≤2147483648;omega) (λv5 g5 n5 h5=> ?_)
      exact Ja (Sub.refl _) (Q _ _ _ _ _ h5)
     ·rw [if_neg J] at Q
      refine Qac h3 (by omega) _ _ _ _ (λv g4 n4 h4=> ?_)
      refine XaZ h4 (by show -1≤C.place∧C.place≤2147483648;omega) (λv5 g5 n5 h5=> ?_)
      exact Ja (Sub.refl _) (Q _ _ _ _ _ h5)
    exact p0 _ t0 t5 t2 t3
  simp only [Qd,Qb]
  refine I.ldi (k:=0) rfl ?_
  refine Qg6 ?_
  change Zl (Qj Jm) .exact O n1 _
  intro j
  have s1:=(Sub.refl O).new j (some (.cells (Qj Jm) .exact))
  have x1:upd O n1 (some (.cells (Qj Jm) .exact)) n1=some (.cells (Qj Jm) .exact):=Xa _ _ _
  have o1:o n1=none:=I.sys.live.fresh j
  have m1: ¬w.mem n1:=by
   obtain ⟨ds,e1,e2⟩:=I.co.hp
   obtain ⟨L,f,hr⟩:=id I.co.hb
   rintro (e|e|e)
   ·rw [e,I.co.hc] at j;cases j
   ·rw [e,e2] at j;cases j
   ·rw [e,hr.hb] at j;cases j
  have V:n1≠lx:=λe=>by obtain ⟨v,hx,_⟩:=I.hx;rw [e,hx] at j;cases j
  rw [Xe]
  refine JgW (e:=⟨i.op,l,0,0,false⟩) x1 (λx2=> ?_)
  have s2:Sub O (upd (upd O n1 (some (.cells (Qj Jm) .exact))) n1 (some (.cells (Qj ⟨i.op,l,0,0,false⟩) .exact))):=s1.upd_fresh _ j
  have E:=I.mono s2
  generalize upd (upd O n1 (some (.cells (Qj Jm) .exact))) n1 (some (.cells (Qj ⟨i.op,l,0,0,false⟩) .exact))=U at x2 s2 E
  refine E.ldi (k:=0) rfl (XaB (Jg (λJ=> ?_) (λJ=> ?_)))
  ·refine E.ldc ?_
   refine E.ldi (k:=1) rfl ?_
   simp only [Qd,Qb]
   refine Jeu ra.1 (by omega) ?_
   refine E.co.atr ra rfl ?_
   refine Qz x2 rfl (by rw [JB];decide) rfl ?_
   have e3:(Qj ⟨i.op,l,0,0,false⟩).set (0+2) (.int .i64 x)=Qj ⟨i.op,l,x,0,false⟩:=rfl
   rw [e3]
   have Y: ∀{k:Nat} (b:Option Blk),w.mem k∨k=lx→upd U n1 b k=U k:=λb hk=>Zd _ _ (λe=>by rcases hk with hk|hk;exact m1 (e▸hk);exact V (e.symm.trans hk))
   refine ⟨Y _ (.inr rfl),Y _ (.inr rfl),?_,?_⟩
   ·rw [Qb];exact Y _ (.inl (.inl rfl))
   refine Qz (Xa _ _ _) rfl (by rw [JB];decide) rfl ?_
   have e4:(Qj ⟨i.op,l,x,0,false⟩).set (0+3) (.int .u64 (C.reg i.a))=Qj ⟨i.op,l,x,C.reg i.a,false⟩:=rfl
   rw [e4]
   have s3:Sub O (upd (upd U n1 (some (.cells (Qj ⟨i.op,l,x,0,false⟩) .exact))) n1 (some (.cells (Qj ⟨i.op,l,x,C.reg i.a,false⟩) .exact))):=(s2.upd_fresh _ j).upd_fresh _ j
   simp only [ZaB]
   refine jj _ _ _ n1 ⟨i.op,l,x,C.reg i.a,false⟩ rfl rfl rfl rfl (I.mono s3) (Xa _ _ _) V m1 o1 ?_
   unfold Cr.entry;rw [if_pos J,J]
  ·simp only [ZaB]
   refine jj _ _ _ n1 ⟨i.op,l,0,0,false⟩ rfl rfl rfl rfl E x2 V m1 o1 ?_
   unfold Cr.entry;rw [if_neg J]
end
end
section
variable {g:G} {n:Nat}
section
variable {F:G} {o:Col Cl} {lx ls:Nat} {W:QaI} {w:CW} {S:Sys} {C:Cr} {i:Ins} {evs:List Evt} {K:Cont}
set_option maxRecDepth 100000 in
theorem QeQ (h:StH F o g lx ls W w S C i evs) {k:Nat} (hw:S.wf k) (hk:k+3<100000) (hg:JE i=true) (hl:evs.length<900) (hp:0≤C.place∧C.place<4096) (J:Done F lx ls w i evs K (C.lockX S i)):
  AC Xr [ptr lx 0] g n K:=by
 obtain ⟨ra,rb,rc,_⟩:=Xbm hg
 have hL:1≤S.c.lines∧S.c.lines≤64:=by have:=hw.c.lines;omega
 refine ACalls.fold Xb ?_
 rw [←QcA]
 simp only [Qa4,ZaL]
 refine Jee h hL rb (by omega) (λV g1 n1 O=> ?_) (λl x V g1 n1 O=> ?_)
 ·refine Jar rfl (Jar rfl (Jar rfl (XaC (Ze rfl ?_))))
  have e:C.lockX S i=C.trap S:=by unfold Cr.lockX;rw [V]
  rw [e] at J
  exact Ja (Sub.refl _) (J _ _ _ _ _ O)
 refine Jar rfl (Jar rfl (Jar rfl (XaC (Jc rfl ?_))))
 refine Zd3 O (λn2=>XaC (Xo (λhs=> ?_) (λhs=> ?_)))
 ·exact J.of O (by unfold Cr.lockX;rw [V];simp only;rw [if_pos (by simpa using hs)])
 have U: ¬C.still=false:=by simp only [Bool.not_eq_false];simpa using hs
 simp only [Qd,Qb]
 refine O.lds (O.ldc ?_)
 simp only [Qd,Qb]
 refine O.co.ldid ?_
 have ab:=hw.reach (by omega:k<100000) C.id l
 refine Qe2 O.sys (hw.fit (by omega)) (λj N line hN=>((hw.nd j N hN).gd.reach (by omega) line).ok) _ _ (λo3 g3 n3 W3 u3 h3=> ?_)
 have I:=O.sysop u3 h3
 refine XaC (Xo (λhb=> ?_) (λhb=> ?_))
 ·have e:C.lockX S i=(C,(S.reach C.id l).1,[]):=by unfold Cr.lockX;rw [V];simp only;rw [if_neg U,if_pos (by simpa using hb)]
  rw [e] at J
  exact Done.of (R:=(C,(S.reach C.id l).1,[])) J I rfl
 have aa: ¬(S.reach C.id l).2=false:=by simp only [Bool.not_eq_false];simpa using hb
 refine I.lds (I.ldc ?_)
 simp only [Qd,Qb]
 refine I.co.ldid ?_
 have ae:=ab.load (by omega:k+1<100000) C.id l x
 refine Qd9 I.sys (ab.fit (by omega)) _ _ _ (λo4 g4 n4 W4 u4 h4=> ?_)
 have ac:=I.sysop u4 h4
 generalize hold:((S.reach C.id l).1.load C.id l x).2.1=old at*
 generalize hS2:((S.reach C.id l).1.load C.id l x).1=S2 at*
 refine Jar rfl (Jar rfl ?_)
 refine Qac ac (by omega) _ _ _ _ (λv5 g5 n5 E=> ?_)
 have Y: ∀(t:Env),t 0=ptr lx 0→t 5= .int .u64 old→t 2= .int .i64 l→t 3= .int .i64 x→XL AC K (Zy AC K) t g5 n5:=by
  intro t t0 t5 t2 t3
  simp only [XL,t0,t5,Qd,Qb]
  refine E.ldc ?_
  refine E.ldi (k:=3) rfl ?_
  simp only [Qd,Qb]
  refine Jeu rc.1 (by omega) ?_
  refine E.co.atr rc rfl ?_
  refine E.ldc ?_
  refine E.ldi (k:=1) rfl ?_
  simp only [Qd,Qb]
  refine Jeu ra.1 (by omega) ?_
  refine E.co.atr ra rfl ?_
  refine XaB ?_
  refine E.ldi (k:=0) rfl ?_
  have Z: ∀(t':Env) (st:Bool) (v:Int),t' 0=ptr lx 0→t' 5= .int .u64 old→t' 2= .int .i64 l→t' 3= .int .i64 x→t' 7= .int .u64 v→t' 8= .bool st→
    C.lockX S i=(if st then ((C.setR i.a old).next,(S2.store C.id l x v).1,[C.ev 4 l x old,C.ev 3 l x v]) else ((C.setR i.a old).next,S2,[C.ev 4 l x old]))→Zy AC K t' g5 n5:=by
   intro t' st v q0 q5 q2 q3 q7 q8 e
   rw [e] at J
   have j2: ∀(t':Env) {o:Col Cl} {W:QaI} {S3:Sys} (g6:G) (m:Nat) (ev:List Evt),t' 0=ptr lx 0→t' 5= .int .u64 old→StH F o g6 lx ls W w S3 C i ev→(∀v o' g' n' W',StH F o' g' lx ls W' w S3 (C.setR i.a old).next i ev→K v g' n')→Xaf AC K t' g6 m:=by
    intro t' o W S3 g6 m ev q0 q5 h6 ad
    simp only [Xaf,q0,q5,Qd,Qb]
    refine h6.ldc ?_
    refine h6.ldi (k:=1) rfl ?_
    simp only [Qd,Qb]
    refine h6.str ra (λg7 h7=> ?_)
    refine XaZ h7 (by show -1≤C.place∧C.place≤2147483648;omega) (λv8 g8 n8 h8=> ?_)
    exact Ja (Sub.refl _) (ad _ _ _ _ _ h8)
   simp only [Zy,q8]
   cases st with
   | true=>
    refine Ze rfl ?_
    simp only [if_true] at J
    simp only [q0,q2,q3,q7,Qd,Qb]
    refine E.lds (E.ldc ?_)
    simp only [Qd,Qb]
    refine E.co.ldid ?_
    refine JdL E.sys (ae.fit (by omega)) _ _ _ _ (λo6 g6 n6 W6 u6 h6=> ?_)
    have af:=E.sysop u6 h6
    refine Qac af (by rw [List.length_append,List.length_singleton];omega) _ _ _ _ (λv7 g7 n7 h7=> ?_)
    refine j2 _ _ _ _ q0 q5 h7 (λv o' g' n' W' h'=>J v o' g' n' W' ?_)
    rw [List.append_assoc] at h'
    exact h'
   | false=>
    refine Jc rfl ?_
    simp only [Bool.false_eq_true,if_false] at J
    exact j2 _ _ _ _ q0 q5 E J
  have lk: ∀{A B:Res},(if i.op=11 then A else B)=C.lockX S i→True:=λ_=>trivial
  refine XaB (Jg (λQ=> ?_) (λQ=> ?_))
  ·rw [Jf]
   simp only [Qaf]
   refine Z _ true (IntKind.u64.wrap (old+C.reg i.c)) t0 t5 t2 t3 rfl rfl ?_
   unfold Cr.lockX
   rw [V]
   simp only
   rw [if_neg U,if_neg aa,if_pos Q,hold,hS2]
   rfl
  ·simp only [Qaf]
   refine Z _ (decide (old=C.reg i.a)) (C.reg i.c) t0 t5 t2 t3 rfl rfl ?_
   unfold Cr.lockX
   rw [V]
   simp only
   rw [if_neg U,if_neg aa,if_neg Q,hold,hS2]
   by_cases ho:old=C.reg i.a
   ·rw [if_pos ho,decide_eq_true ho];rfl
   ·rw [if_neg ho,decide_eq_false ho];rfl
 exact Y _ rfl rfl rfl rfl
set_option maxRecDepth 100000 in
theorem ZeP (h:StH F o g lx ls W w S C i evs) (hg:JE i=true) (hn:C.nn) (hp:0≤C.place∧C.place<4096) (O: ∀v g' n',StH F o g' lx ls W w S (C.reckonX i) i evs→K v g' n'):AC QaD [ptr lx 0] g n K:=by
 obtain ⟨ra,rb,rc,_⟩:=Xbm hg
 refine ACalls.fold Xb ?_
 rw [←Qcy]
 simp only [XbY,Qd,Qb]
 refine h.ldc ?_
 simp only [Qd,Qb]
 obtain ⟨v,hx,_⟩:=id h.hx
 refine Jt hx (by simp [xC,encI]) ?_
 rw [show ((xC w ls i v).drop (0+2)).take 5=encI i from rfl]
 change Zl (encI QB) .exact g n _
 intro j
 have s1:=(Sub.refl g).new j (some (.cells (encI QB) .exact))
 have U:lx≠n:=λe=>by rw [←e,hx] at j;cases j
 refine ⟨Zd _ _ U,Zd _ _ U,?_⟩
 rw [Xe]
 refine stI (e:=i) (z:=QB) (Xa _ _ _) (λx2=> ?_)
 have s2:Sub g (upd (upd g n (some (.cells (encI QB) .exact))) n (some (.cells (encI i) .exact))):=s1.upd_fresh _ j
 have Y:=h.mono s2
 have on:o n=none:=h.sys.live.fresh j
 have mn: ¬w.mem n:=by
  obtain ⟨ds,e1,e2⟩:=h.co.hp
  obtain ⟨L,f,hr⟩:=id h.co.hb
  rintro (e|e|e)
  ·rw [e,h.co.hc] at j;cases j
  ·rw [e,e2] at j;cases j
  ·rw [e,hr.hb] at j;cases j
 have nc:n≠w.lc:=λe=>mn (.inl e)
 refine ACalls.fold Xb ?_
 rw [←JbF]
 simp only [Xbu,Qd,Qb]
 refine Y.ldc ?_
 simp only [Qd,Qb]
 refine Y.co.ldt (k:=0) rfl ?_
 rw [Jf,Qg (by omega) (by omega)]
 refine Y.co.st (k:=0) (C':=C.next) (by decide) rfl rfl ?_
 have h3:=Y.setC (C':=C.next) Y.co.rl rfl rfl rfl
 have Q:upd (upd (upd g n (some (.cells (encI QB) .exact))) n (some (.cells (encI i) .exact))) w.lc (some (.cells (coC w C.next) .exact)) n=some (.cells (encI i) .exact):=by rw [Zd _ _ nc];exact x2
 generalize upd (upd (upd g n (some (.cells (encI QB) .exact))) n (some (.cells (encI i) .exact))) w.lc (some (.cells (coC w C.next) .exact))=g3 at h3 Q
 refine Ja (Sub.refl _) ?_
 refine Zb Q rfl (Zb Q rfl ?_)
 refine Jeu rb.1 (by omega) ?_
 refine h3.co.atr rb rfl ?_
 refine Zb Q rfl ?_
 refine Jeu rc.1 (by omega) ?_
 refine h3.co.atr rc rfl ?_
 have Z: ∀k,C.next.reg k=C.reg k:=λ_=>rfl
 rw [Z,Z]
 refine ZfH i.op (hn.reg i.c) (λg4 n4 s4=> ?_)
 have I:=h3.mono s4
 have V:=s4.live Q
 refine Jar rfl (Jar rfl (Jg (λE=> ?_) (λE=> ?_)))
 ·rw [if_pos E]
  have e:C.reckonX i=(C.setR i.a (ZhO i.op (C.reg i.b) (C.reg i.c))).next:=by unfold Cr.reckonX;rw [if_pos E]
  rw [e] at O
  refine Zb V rfl ?_
  refine I.str ra (λg5 h5=> ?_)
  exact Ja (Sub.refl _) (O _ _ _ h5)
 ·refine Zb V rfl (Zb V rfl ?_)
  refine Jeu ra.1 (by omega) ?_
  refine I.co.atr ra rfl ?_
  refine Zb V rfl ?_
  refine Jeu rb.1 (by omega) ?_
  refine I.co.atr rb rfl ?_
  rw [Z,Z]
  refine Zez i.op (λc n5=> ?_)
  refine Jar rfl (Jar rfl (Xo (λJ=> ?_) (λJ=> ?_)))
  ·have e:C.reckonX i={ C with place:=i.imm }:=by unfold Cr.reckonX;rw [if_neg E,if_pos J]
   rw [e] at O
   refine I.ldc ?_
   refine Zb V rfl ?_
   simp only [Qd,Qb]
   refine I.co.st (k:=0) (C':={ C with place:=i.imm }) (by decide) rfl rfl ?_
   exact Ja (Sub.refl _) (O _ _ _ (I.setC I.co.rl rfl rfl rfl))
  ·have e:C.reckonX i=C.next:=by unfold Cr.reckonX;rw [if_neg E,if_neg (by rw [J];decide)]
   rw [e] at O
   exact Ja (Sub.refl _) (O _ _ _ I)
end
end
section
variable {g:G} {n:Nat}
section
variable {F:G} {o:Col Cl} {lx ls:Nat} {W:QaI} {w:CW} {S:Sys} {C:Cr} {i:Ins} {evs:List Evt} {K:Cont}
set_option maxRecDepth 100000 in
theorem Jhc (h:StH F o g lx ls W w S C i evs) {k:Nat} (hw:S.wf k) (hk:k+3<100000) (ah:C.ok) (hn:C.nn) (hg:JE i=true) (aj:0≤i.op∧i.op≤22) (hl:evs.length<900) (hp:0≤C.place∧C.place<4096) (hK:Done F lx ls w i evs K (C.doX S i)):
  AC Jbf [ptr lx 0] g n K:=by
 obtain ⟨ra,rb,rc,_⟩:=Xbm hg
 have hL:1≤S.c.lines∧S.c.lines≤64:=by have:=hw.c.lines;omega
 refine ACalls.fold Xb ?_
 rw [←Jds]
 simp only [Xdg,Qd,Qb]
 refine h.ldc ?_
 simp only [Qd,Qb]
 obtain ⟨v,hx,_⟩:=id h.hx
 refine Jt hx (by simp [xC,encI]) ?_
 rw [show ((xC w ls i v).drop (0+2)).take 5=encI i from rfl]
 change Zl (encI QB) .exact g n _
 intro ad
 have s1:=(Sub.refl g).new ad (some (.cells (encI QB) .exact))
 rw [Xe]
 refine stI (e:=i) (z:=QB) (Xa _ _ _) (λx2=> ?_)
 have s2:Sub g (upd (upd g n (some (.cells (encI QB) .exact))) n (some (.cells (encI i) .exact))):=s1.upd_fresh _ ad
 have Q:=h.mono s2
 generalize upd (upd g n (some (.cells (encI QB) .exact))) n (some (.cells (encI i) .exact))=g2 at x2 s2 Q
 have ret: ∀{v:Value} {o':Col Cl} {g':G} {n':Nat} {W':QaI} {R:Res},R=C.doX S i→StH F o' g' lx ls W' w R.2.1 R.1 i (evs++R.2.2)→Zc K v g' n':=by
  intro v o' g' n' W' R e h'
  subst e
  exact Ja (Sub.refl _) (hK _ _ _ _ _ h')
 refine Zb x2 rfl ?_
 refine XaB (Jg (λc0=> ?_) (λc0=> ?_))
 ·refine XaZ Q (by omega) (λZ Y n3 E=> ?_)
  exact ret (R:=(C.next,S,[])) (by unfold Cr.doX;rw [if_pos c0]) (by rw [List.append_nil];exact E)
 refine XaB (Jg (λc1=> ?_) (λc1=> ?_))
 ·refine Zb x2 rfl (Zb x2 rfl ?_)
  rw [Xbi]
  refine Q.str ra (λY E=> ?_)
  refine XaZ E (by show -1≤C.place∧C.place≤2147483648;omega) (λZ Y n3 E=> ?_)
  exact ret (R:=((C.setR i.a (IntKind.u64.wrap i.imm)).next,S,[])) (by unfold Cr.doX;rw [if_neg c0,if_pos c1]) (by rw [List.append_nil];exact E)
 refine XaB (Jg (λc8=> ?_) (λc8=> ?_))
 ·refine XfH Q (hw.fit (by omega)) hL hg hl hp (λZ o3 Y n3 W3 E=> ?_)
  exact ret (R:=C.loadX S i) (by unfold Cr.doX;rw [if_neg c0,if_neg c1,if_pos c8]) E
 have j3: ∀(t:Env) (m:Nat),t 0=ptr lx 0→t 15= .int .i64 i.op→t 3=ptr n 0→t 2=ptr w.lc (0+1)→t 50= .bool (decide (i.op=10∨i.op=11))→ ¬(i.op=9∨i.op=12∨i.op=13∨i.op=14)→ ¬(i.op=15∨i.op=16)→ZaK AC K t g2 m:=by
  intro t m U J t3 t2 ae O j
  simp only [ZaK,U,J,t3,t2,ae]
  refine Jg (λI=> ?_) (λI=> ?_)
  ·refine QeQ Q hw hk hg hl hp (λZ o3 Y n3 W3 E=> ?_)
   exact ret (R:=C.lockX S i) (by unfold Cr.doX;rw [if_neg c0,if_neg c1,if_neg c8,if_neg O,if_neg j,if_pos I]) E
  refine XaB (Jg (λV=> ?_) (λV=> ?_))
  ·simp only [Qb]
   refine Zb x2 rfl ?_
   simp only [Qd]
   refine Jeu ra.1 (by omega) ?_
   refine Q.co.atr ra rfl ?_
   refine Qac Q (by omega) _ _ _ _ (λZ Y n3 E=> ?_)
   refine XaZ E (by omega) (λv4 g4 n4 h4=> ?_)
   exact ret (R:=(C.next,S,[C.ev 8 0 0 (C.reg i.a)])) (by unfold Cr.doX;rw [if_neg c0,if_neg c1,if_neg c8,if_neg O,if_neg j,if_neg I,if_pos V]) h4
  refine XaB (Jg (λab=> ?_) (λab=> ?_))
  ·refine Qac Q (by omega) _ _ _ _ (λZ Y n3 E=> ?_)
   simp only [Qd,Qb]
   refine E.ldc ?_
   simp only [Qd,Qb]
   refine E.co.st (k:=4) (C':={ C with runs:=false }) (by decide) rfl rfl ?_
   exact ret (R:=({ C with runs:=false },S,[C.ev 9 0 0 0])) (by unfold Cr.doX;rw [if_neg c0,if_neg c1,if_neg c8,if_neg O,if_neg j,if_neg I,if_neg V,if_pos ab]) (E.setC E.co.rl rfl rfl rfl)
  ·refine ZeP Q hg hn hp (λZ Y n3 E=> ?_)
   exact ret (R:=(C.reckonX i,S,[])) (by unfold Cr.doX;rw [if_neg c0,if_neg c1,if_neg c8,if_neg O,if_neg j,if_neg I,if_neg V,if_neg ab]) (by rw [List.append_nil];exact E)
 have j2: ∀(t:Env) (m:Nat),t 0=ptr lx 0→t 15= .int .i64 i.op→t 3=ptr n 0→t 2=ptr w.lc (0+1)→t 45= .bool (decide (i.op=15∨i.op=16))→ ¬(i.op=9∨i.op=12∨i.op=13∨i.op=14)→JaJ AC K t g2 m:=by
  intro t m U J t3 t2 af O
  simp only [JaJ,U,J,af]
  refine Jg (λj=> ?_) (λj=> ?_)
  ·refine Jfa Q hl hp (λZ o3 Y n3 W3 E=> ?_)
   exact ret (R:=C.fenceX S) (by unfold Cr.doX;rw [if_neg c0,if_neg c1,if_neg c8,if_neg O,if_pos j]) E
  refine XaB (Jg (λI=> ?_) (λI=>XaB ?_))
  ·exact j3 _ _ U J t3 t2 (by show Value.bool (decide (i.op=10))=_;congr 1;simp [I]) O j
  ·exact j3 _ _ U J t3 t2 (by show Value.bool (decide (i.op=11))=_;congr 1;simp [I]) O j
 have j1: ∀(t:Env) (m:Nat),t 0=ptr lx 0→t 15= .int .i64 i.op→t 3=ptr n 0→t 2=ptr w.lc (0+1)→t 38= .bool (decide (i.op=9∨i.op=12∨i.op=13∨i.op=14))→Zab AC K t g2 m:=by
  intro t m U J t3 t2 ai
  simp only [Zab,U,J,ai]
  refine Jg (λO=> ?_) (λO=> ?_)
  ·refine Qgc Q hL hg O ah.room.2 hl hp (λZ o3 Y n3 W3 E=> ?_)
   exact ret (R:=C.putX S i) (by unfold Cr.doX;rw [if_neg c0,if_neg c1,if_neg c8,if_pos O]) E
  refine XaB (Jg (λj=> ?_) (λj=>XaB ?_))
  ·exact j2 _ _ U J t3 t2 (by show Value.bool (decide (i.op=15))=_;congr 1;simp [j]) O
  ·exact j2 _ _ U J t3 t2 (by show Value.bool (decide (i.op=16))=_;congr 1;simp [j]) O
 refine XaB (Jg (λO=>j1 _ _ rfl rfl rfl rfl ?_) (λO=>XaB (Jg (λaa=>j1 _ _ rfl rfl rfl rfl ?_) (λaa=>XaB (Jg (λac=>j1 _ _ rfl rfl rfl rfl ?_) (λac=>XaB (j1 _ _ rfl rfl rfl rfl ?_)))))))
 ·show Value.bool (decide (i.op=9))=_;congr 1;simp [O]
 ·show Value.bool (decide (i.op=12))=_;congr 1;simp [aa]
 ·show Value.bool (decide (i.op=13))=_;congr 1;simp [ac]
 ·show Value.bool (decide (i.op=14))=_;congr 1;simp [O,aa,ac]
end
section
variable {A M B:List Value}
theorem Zc9 {k:Nat} (j:k<M.length):(A++M++B)[A.length+k]? =M[k]? :=by
 rw [List.append_assoc,List.getElem?_append_right (by omega),show A.length+k-A.length=k by omega,List.getElem?_append_left j]
theorem Zen {k:Nat} (j:k<M.length) (v:Value):(A++M++B).set (A.length+k) v=A++M.set k v++B:=by
 rw [List.append_assoc,List.set_append_right _ _ (by omega),show A.length+k-A.length=k by omega,List.set_append_left _ _ j,List.append_assoc]
theorem QfK {k:Nat} {vs:List Value} (j:k+vs.length≤M.length):splice (A++M++B) (A.length+k) vs=A++splice M k vs++B:=by
 unfold splice
 rw [List.append_assoc A M B,List.take_append,List.take_of_length_le (by omega),show A.length+k-A.length=k by omega,List.take_append_of_le_length (by omega),Nat.add_assoc,List.drop_append,List.drop_of_length_le (by omega),show A.length+(k+vs.length)-A.length=k+vs.length by omega,List.drop_append_of_le_length j]
 simp
end
section
variable {K:Cont} {lp ln:Nat} {A B:List Value} {u:Int}
theorem Xgf {m s:Int} {a c d:Value} (V:0≤u∧u<18446744073709551616) (hp:g lp=some (.cells (A++([a,c,d,.int .u64 u]++encI QB++[.bool false])++B) .exact)) (hx:g ln=some (.cells [ptr lp A.length] .exact)) (J:ln≠lp)
  (hK: ∀v g' n',Chg (λx=>x=lp) g g'→g' lp=some (.cells (A++([a,c,d,.int .u64 u]++encI (JeW u)++[.bool (decode u).isSome])++B) .exact)→K v g' n'):AC JaL [ptr ln 0] g n K:=by
 refine ACalls.fold Xb ?_
 rw [←ZcY]
 simp only [Jb8,Qb]
 refine Zb hx rfl ?_
 simp only [Qd,Qb]
 refine Zb hp (Zc9 (k:=3) (by simp [encI])) ?_
 refine Xfi V.1 V.2 (λj n1 I=> ?_)
 have p1:=I.live hp
 have Y:=I.live hx
 refine Jar rfl (Jar rfl ?_)
 change Zl (encI QB) .exact j n1 _
 intro U
 have s2:=(Sub.refl j).new U (some (.cells (encI QB) .exact))
 have y2:upd j n1 (some (.cells (encI QB) .exact)) n1=some (.cells (encI QB) .exact):=Xa _ _ _
 rw [Xe]
 refine stI (e:=JeW u) y2 (λO=> ?_)
 have E:Sub j (upd (upd j n1 (some (.cells (encI QB) .exact))) n1 (some (.cells (encI (JeW u)) .exact))):=s2.upd_fresh _ U
 generalize upd (upd j n1 (some (.cells (encI QB) .exact))) n1 (some (.cells (encI (JeW u)) .exact))=g3 at O E
 have Z:=E.live p1
 have Q:=E.live Y
 refine Zb Q rfl (Zb Q rfl (ldI O ?_))
 refine XaB ?_
 simp only [Qd,Qb,Xe]
 refine ⟨J8 _,?_⟩
 refine Xt Z rfl (by simp [encI];omega) (XdA _) ?_
 rw [QfK (by simp [encI])]
 refine ⟨Zd _ _ J,?_⟩
 refine Qz (Xa _ _ _) rfl (by simp [encI,splice]) rfl ?_
 rw [Zen (by simp [encI,splice])]
 refine Ja (Sub.refl _) (hK _ _ _ (((Chg.of_sub (I.trans E)).updE _).updE _) ?_)
 rw [Xa]
 have e:decide (ZhE u=0)=(decode u).isSome:=by
  unfold ZhE
  cases (decode u).isSome<;>rfl
 rw [e]
 rfl
theorem Zg3 {ds:List Cd} {j:Nat} {d:Cd} (hp:g lp=some (.cells (ds.map Xac).flatten .exact)) (hj:ds[j]? =some d) (hu:0≤d.u∧d.u<18446744073709551616)
  (hK: ∀g' n' (ac:List Cd),Chg (λx=>x=lp) g g'→g' lp=some (.cells (ac.map Xac).flatten .exact)→ac.map (·.u)=ds.map (·.u)→K (.tuple #[.agg (encI (JeW d.u)).toArray,.bool (decode d.u).isSome]) g' n'):AC Za4 [ptr lp (0+j*10)] g n K:=by
 refine ACalls.fold Xb ?_
 rw [←Zdk]
 simp only [ZcV]
 refine ⟨rfl,?_⟩
 intro hn
 have s1:=(Sub.refl g).new hn (some (.cells [ptr lp (0+j*10)] .exact))
 have x1:upd g n (some (.cells [ptr lp (0+j*10)] .exact)) n=some (.cells [ptr lp (0+j*10)] .exact):=Xa _ _ _
 have Q:n≠lp:=λe=>by rw [e,hp] at hn;cases hn
 have p1:=s1.live hp
 generalize upd g n (some (.cells [ptr lp (0+j*10)] .exact))=g1 at s1 x1 p1
 change Zl (encI QB) .exact g1 (n+1) _
 intro J
 have s2:=(Sub.refl g1).new J (some (.cells (encI QB) .exact))
 have y2:upd g1 (n+1) (some (.cells (encI QB) .exact)) (n+1)=some (.cells (encI QB) .exact):=Xa _ _ _
 have Z:=s2.live x1
 have U:=s2.live p1
 have E:n+1≠lp:=λe=>by rw [e,p1] at J;cases J
 have sg:=s1.trans s2
 generalize upd g1 (n+1) (some (.cells (encI QB) .exact))=g2 at y2 Z U sg
 have O:(ds.map Xac).flatten=((ds.take j).map Xac).flatten++Xac d++((ds.drop (j+1)).map Xac).flatten:=by
  have e:ds=ds.take j++d::ds.drop (j+1):=by rw [←JbM hj,List.take_append_drop]
  conv=>lhs;rw [e]
  simp
 have an:((ds.take j).map Xac).flatten.length=j*10:=by
  rw [Xh Xac 10 Xb5,List.length_take,Nat.min_eq_left (Nat.le_of_lt (Xg hj))]
 rw [O] at U
 generalize hA:((ds.take j).map Xac).flatten=A at*
 generalize hB:((ds.drop (j+1)).map Xac).flatten=B at*
 have off:0+j*10=A.length:=by omega
 rw [off] at Z
 have ad: ∀(I:G) (n3:Nat),Chg (λx=>x=lp) g2 I→I lp=some (.cells (A++Xac ⟨true,d.u⟩++B) .exact)→
   kLd I n 0 λv9=>Xf v9 λah=>Xc ah λai aj=>Ql I ai (aj+4) 5 λaf=>kLd I n 0 λam=>Xf am λae=>Xc ae λaa ab=>kLd I aa (ab+9) λak=>Jj (.agg af.toArray) λY=>Y.length=5∧Qu I (n+1) 0 Y λg4=>
    (Xc (ptr n 0) λl _=>g4 l=I l)∧(Xc (ptr aa (ab+9)) λl _=>g4 l=I l)∧Ql g4 (n+1) 0 5 λr0=>Zc K (.tuple #[(.agg r0.toArray),ak]) g4 n3:=by
  intro I n3 c3 V
  have x3:=c3.live Q Z
  have y3:=c3.live E y2
  refine Zb x3 rfl ?_
  simp only [Qd,Qb]
  refine Jt V (by simp [Xac,encI];omega) ?_
  have e5:((A++Xac ⟨true,d.u⟩++B).drop (A.length+4)).take 5=encI (JeW d.u):=by
   rw [List.append_assoc,List.drop_append,List.drop_of_length_le (by omega),show A.length+4-A.length=4 by omega]
   rfl
  rw [e5]
  refine Zb x3 rfl ?_
  simp only [Qd,Qb]
  refine Zb V (Zc9 (k:=9) (by simp [Xac,encI])) ?_
  rw [Xe]
  refine stI (e:=JeW d.u) y3 (λy4=> ?_)
  refine ⟨Zd _ _ (by omega),Zd _ _ (Ne.symm E),?_⟩
  refine ldI y4 ?_
  refine Ja (Sub.refl _) (hK _ _ (ds.set j ⟨true,d.u⟩) ?_ ?_ ?_)
  ·exact ((Chg.of_sub sg).trans c3).new (s1.none J) _
  ·rw [Zd _ _ (Ne.symm E),V]
   congr 2
   have e:ds.set j ⟨true,d.u⟩=ds.take j++⟨true,d.u⟩::ds.drop (j+1):=by
    rw [List.set_eq_take_append_cons_drop,if_pos (Xg hj)]
   rw [e,←hA,←hB]
   simp
  ·rw [List.map_set]
   exact set_self (by rw [List.getElem?_map,hj];rfl)
 refine Zb Z rfl ?_
 simp only [Qd,Qb]
 refine ACalls.fold Xb ?_
 rw [←Qdv]
 simp only [Xde,Qd,Qb]
 refine ACalls.fold Xb ?_
 rw [←ZbH]
 simp only [Za0,Qd,Qb]
 obtain ⟨dn,u⟩:=d
 refine XdK (Zb U (Zc9 (k:=0) (by simp [Xac,encI])) ⟨rfl,?_⟩)
 cases dn with
 | true=>
  refine Zbq (Ja (Sub.refl _) (XaC (Jc rfl (Ja (Sub.refl _) ?_))))
  exact ad g2 _ Chg.refl U
 | false=>
  refine Zbq (Ja (Sub.refl _) (XaC (Ze rfl ?_)))
  refine Qfj ?_
  refine ⟨by decide,Zb U (Zc9 (k:=0) (by simp [Xac,encI])) rfl,Zb U (Zc9 (k:=1) (by simp [Xac,encI])) rfl,?_⟩
  refine Qz U rfl (by simp [Xac,encI]) rfl ?_
  have em:(A++Xac ⟨false,u⟩++B).set (A.length+0+1) (.int .i32 1)=A++(Xac ⟨false,u⟩).set (0+1) (.int .i32 1)++B:=by
   rw [Nat.add_assoc];exact Zen (k:=0+1) (by simp [Xac,encI]) _
  rw [em]
  refine Xgf (m:=0) (s:=0) (A:=A) (B:=B) hu (Xa _ _ _) (by rw [Zd _ _ Q];exact Z) Q (λv I n3 c3 V=> ?_)
  have c2:Chg (λx=>x=lp) g2 (upd g2 lp (some (.cells (A++(Xac ⟨false,u⟩).set (0+1) (.int .i32 1)++B) .exact))):=Chg.refl.updE _
  have al:=c2.trans c3
  refine ⟨Zb V (Zc9 (k:=1) (by simp [encI])) rfl,?_⟩
  refine Qz V rfl (by simp [encI]) rfl ?_
  rw [Zen (k:=0) (by simp [encI])]
  refine Qz (Xa _ _ _) rfl (by simp [encI]) rfl ?_
  refine Ja (Sub.refl _) ?_
  refine ad _ _ ((al.updE _).updE _) ?_
  rw [Xa]
  have en: ∀(M:List Value),0+1<M.length→(A++M++B).set (A.length+0+1) (.int .i32 0)=A++M.set (0+1) (.int .i32 0)++B:=by
   intro M hM;rw [Nat.add_assoc];exact Zen (k:=0+1) hM _
  rw [en _ (by simp [encI])]
  rfl
end
end
end Go.Proofs.YtmchcjaomcdbmaaGreat.Gen
