import Derived.Test.YtmchcjaomcdbmaaGreatSpecMesiDropsB
/- What the functions come to. -/
set_option linter.all false
set_option linter.deprecated false
namespace Go.Proofs.YtmchcjaomcdbmaaGreat.Gen
open Go Go.Proofs.YtmchcjaomcdbmaaGreat.Abs Go.RowKit
variable {g:G} {n:Nat}
def Xcx (c:Cfg):Bool:=decide ((1≤c.cores∧c.cores≤8)∧(2≤c.lines∧c.lines≤64)∧(1≤c.vol∧c.vol≤c.lines-1)∧(c.sets=1∨c.sets=2∨c.sets=4∨c.sets=8)∧(1≤c.ways∧c.ways≤8)∧(1≤c.queue∧c.queue≤16)∧(1≤c.store∧c.store≤16))
theorem Zfn {c:Cfg} (h:Xcx c=true):c.good:=by
 obtain ⟨a,b,d,e,f,i,j⟩:=of_decide_eq_true h
 exact ⟨a,b,d,e,f,i,j⟩
theorem JgP {a b:Int} {K:Value→Prop} (h0: -9223372036854775808≤a-b) (h1:a-b≤9223372036854775807) (h:K (.int .i64 (a-b))):Xb .int .sub (.int .i64 a) (.int .i64 b) K:=by
 have e:Xb .int .sub (.int .i64 a) (.int .i64 b) K=K (.int .i64 (IntKind.i64.wrap (a-b))):=by
  simp only [Xb,ZF]
  simp
 rw [e,Xn h0 h1];exact h
theorem Zdu (a b c:Int) {K:Cont} (hK: ∀n',K (.bool (decide (b≤a∧a≤c))) g n'):AC Xe [.int .i64 a,.int .i64 b,.int .i64 c] g n K:=by
 refine ACalls.fold Jb ?_
 rw [←ZcB]
 simp only [Zcd]
 refine JfP (QB (fun h=>ZgE (lfE hK ?_)) (fun h=>lfE hK ?_))
 ·exact decide_eq_decide.2 (by omega)
 ·exact (decide_eq_false (by omega)).symm
set_option maxHeartbeats 1000000 in
theorem Zet (c:Cfg) {K:Cont} (hK: ∀g' n',Sub g g'→K (.bool (Xcx c)) g' n'):AC Jbl [.agg (Jr c).toArray] g n K:=by
 refine ACalls.fold Jb ?_
 rw [←Jdz]
 simp only [JdG,Qf]
 intro hn
 have s1:=(Sub.refl g).new hn (some (.cells (Jr c) .exact))
 have hx:upd g n (some (.cells (Jr c) .exact)) n=some (.cells (Jr c) .exact):=Xa _ _ _
 generalize upd g n (some (.cells (Jr c) .exact))=g1 at s1 hx ⊢
 replace hK: ∀n',K (.bool (Xcx c)) g1 n':=fun n'=>hK _ _ s1
 unfold Xcx at hK
 repeat' (first
  | refine Qb hx (show (Jr c)[0+0]? =some (.int .i64 c.cores) from rfl) ?_|refine Qb hx (show (Jr c)[0+1]? =some (.int .i64 c.lines) from rfl) ?_|refine Qb hx (show (Jr c)[0+2]? =some (.int .i64 c.vol) from rfl) ?_
  | refine Qb hx (show (Jr c)[0+3]? =some (.int .i64 c.sets) from rfl) ?_|refine Qb hx (show (Jr c)[0+4]? =some (.int .i64 c.ways) from rfl) ?_|refine Qb hx (show (Jr c)[0+5]? =some (.int .i64 c.queue) from rfl) ?_
  | refine Qb hx (show (Jr c)[0+6]? =some (.int .i64 c.store) from rfl) ?_
  | refine Zdu _ _ _ (fun _=> ?_)|refine Zc2 ?_|refine JgP (by omega) (by omega) ?_|(refine QB (fun h=> ?_) (fun h=> ?_))|refine lfE hK ?_)
 all_goals first|exact decide_eq_decide.2 (by omega)|exact (decide_eq_false (by omega)).symm
set_option maxHeartbeats 1000000 in
theorem Qeq (c:Cfg) {K:Cont} (hK: ∀g' n',Sub g g'→K (.bool (Xcx c)) g' n'):AC Qad [.agg (Jr c).toArray] g n K:=by
 refine ACalls.fold Jb ?_
 rw [←Qbw]
 simp only [ZaQ,Qf]
 intro hn
 have s1:=(Sub.refl g).new hn (some (.cells (Jr c) .exact))
 have hx:upd g n (some (.cells (Jr c) .exact)) n=some (.cells (Jr c) .exact):=Xa _ _ _
 generalize upd g n (some (.cells (Jr c) .exact))=g1 at s1 hx ⊢
 replace hK: ∀n',K (.bool (Xcx c)) g1 n':=fun n'=>hK _ _ s1
 unfold Xcx at hK
 repeat' (first
  | refine Qb hx (show (Jr c)[0+0]? =some (.int .i64 c.cores) from rfl) ?_|refine Qb hx (show (Jr c)[0+1]? =some (.int .i64 c.lines) from rfl) ?_|refine Qb hx (show (Jr c)[0+2]? =some (.int .i64 c.vol) from rfl) ?_
  | refine Qb hx (show (Jr c)[0+3]? =some (.int .i64 c.sets) from rfl) ?_|refine Qb hx (show (Jr c)[0+4]? =some (.int .i64 c.ways) from rfl) ?_|refine Qb hx (show (Jr c)[0+5]? =some (.int .i64 c.queue) from rfl) ?_
  | refine Qb hx (show (Jr c)[0+6]? =some (.int .i64 c.store) from rfl) ?_
  | refine Zc2 ?_|refine JfP ?_|refine ZgE ?_|refine JeK ?_|(refine QB (fun h=> ?_) (fun h=> ?_))|refine lfE hK ?_)
 all_goals first|exact decide_eq_decide.2 (by omega)|exact (decide_eq_false (by omega)).symm
end Go.Proofs.YtmchcjaomcdbmaaGreat.Gen
namespace Go.Proofs.YtmchcjaomcdbmaaGreat.Gen
open Go Go.Proofs.YtmchcjaomcdbmaaGreat.Abs Go.RowKit
variable {g:G} {n:Nat}
def ZfN (c:Cfg) (img:List Ln):Dev:=if img=[] then ⟨List.replicate c.lines.toNat zeroL,c.vol.toNat⟩ else Dev.fail ⟨img,c.vol.toNat⟩
def XaP (c:Cfg) (img:List Ln):Sys:=⟨c,List.replicate c.cores.toNat (nd0 c),List.replicate c.lines.toNat emptyEnt,[],ZfN c img⟩
theorem ZgH:Live (fun _=>(none:Option Cl)) g:=fun _ _ h=>nomatch h
theorem XgP:unc (fun _=>(none:Option Cl)) g=g:=rfl
section
variable {K:Cont} {o:Col Cl}
theorem Xgc {ld:Nat} {room:Int} {K:List Value→Prop} (k:K [ptr ld 0,.int .i64 room,.slice none 0 0]):Xk [.pointer none,.int .i64 0,.slice none 0 0] [(0,none,ptr ld 0),(1,none,.int .i64 room)] K:=⟨rfl,by decide,rfl,Nat.le_of_ble_eq_true rfl,k⟩
theorem XeW {ld:Nat} {room:Int} (h1:1≤room∧room≤16) (hK: ∀g' n' lq,g lq=none→Sub g g'→g' lq=some (.cells [ptr ld 0,.int .i64 room,.slice none 0 0] .exact)→K (.tuple #[ptr lq 0,.int .i64 0]) g' n'):AC Zb4 [ptr ld 0,.int .i64 room] g n K:=by
 refine ACalls.fold Jb ?_
 rw [←Zeu]
 simp only [QeQ]
 refine ZbP (Zx (fun h=>nomatch h) (fun _=>JeK (QB (fun h=>absurd h (by omega)) (fun _=>Jgz (QB (fun h=>absurd h (by omega)) (fun _=>Xgc ?_))))))
 simp only [Qf]
 intro hn
 exact Ja (Sub.refl _) (hK _ _ n hn ((Sub.refl g).new hn _) (Xa _ _ _))
theorem Xfl {c:Cfg} {lq:Nat} {K:List Value→Prop} (k:K (Jr c++[.slice none 0 0,.slice none 0 0,ptr lq 0,.int .i64 0])):Xk (Jr ⟨0,0,0,0,0,0,0⟩++[.slice none 0 0,.slice none 0 0,.pointer none,.int .i64 0]) [(0,some 7,.agg (Jr c).toArray),(9,none,ptr lq 0)] K:=⟨rfl,by decide,rfl,Nat.le_of_ble_eq_true rfl,k⟩
theorem Xgp {t:Cl→Prop} {g':G} {l:Nat} {c:Cl} {b:Blk} (hL:Live o g) (hs:Sub g g') (hl:g l=none) (ht:t c) (hb:g' l=some b):Kept t o (upd o l (some c)) g g'∧Live (upd o l (some c)) g':=by
 refine ⟨XcS hL hs (fun i=> ?_),fun i d hi=> ?_⟩
 ·by_cases h:i=l
  ·subst h;exact .inr ⟨hl,c,ht,Xa _ _ _⟩
  ·exact .inl (Xc _ _ h)
 ·by_cases h:i=l
  ·subst h;exact ⟨b,hb⟩
  ·rw [Xc _ _ h] at hi
   obtain ⟨b',hb'⟩:=hL i d hi
   exact ⟨b',hs.live hb'⟩
def ZfK (c:Cl):Prop:=c= .que∨c= .sys
theorem XfQ {c:Cfg} (hc:c.good) {t:Env} {l2 le lm:Nat} {D:Dev} (t2:t 2=ptr l2 0) (t6:t 6=ptr le 0) (hL:Live o g) (h2:unc o g l2=some (.cells (Jr c) .exact)) (hD:DevH o g le lm D)
  (hK: ∀l o' g' n' W',Sub (unc o g) (unc o' g')→SysH o' g' l W' ⟨c,List.replicate c.cores.toNat (nd0 c),List.replicate c.lines.toNat emptyEnt,[],D⟩→K (.tuple #[ptr l 0,.int .i64 0]) g' n'):J2 AC K t g n:=by
 simp only [J2,t2,t6,Zc]
 have x2:=(Xq _ _).live h2
 refine Qb x2 (show (Jr c)[0+5]? =some (.int .i64 c.queue) from rfl) ?_
 refine XeW hc.queue (fun g3 n3 lq fq s3 x3=> ?_)
 simp only [Zm,Jq,Qr]
 refine Jb0 (QB (fun h=>absurd h (by decide)) (fun _=> ?_))
 refine Ju (s3.live x2) (by simp [Jr]) ?_
 rw [show ((Jr c).drop 0).take 7=Jr c from rfl]
 refine Xfl ?_
 simp only [Qf]
 intro hn
 obtain ⟨k3,L3⟩:=Xgp (t:=ZfK) (c:=Cl.que) hL s3 fq (.inl rfl) x3
 have hq:(upd o lq (some Cl.que)) lq=some .que:=Xa _ _ _
 generalize upd o lq (some Cl.que)=o3 at k3 L3 hq
 have k4:Kept ZfK o3 (upd o3 n3 (some .sys)) g3 (upd g3 n3 (some (.cells (Jr c++[.slice none 0 0,.slice none 0 0,ptr lq 0,.int .i64 0]) .exact))):=Kept.new (L3.fresh hn) hn (.inr rfl) _
 have L4:=L3.new n3 Cl.sys (.cells (Jr c++[.slice none 0 0,.slice none 0 0,ptr lq 0,.int .i64 0]) .exact)
 have x4:upd g3 n3 (some (.cells (Jr c++[.slice none 0 0,.slice none 0 0,ptr lq 0,.int .i64 0]) .exact)) n3=_:=Xa _ _ _
 have s4:=(Sub.refl g3).new hn (some (.cells (Jr c++[.slice none 0 0,.slice none 0 0,ptr lq 0,.int .i64 0]) .exact))
 have os:(upd o3 n3 (some Cl.sys)) n3=some .sys:=Xa _ _ _
 have oq:(upd o3 n3 (some Cl.sys)) lq=some .que:=by rw [Xc _ _ (Zl x3 hn).symm];exact hq
 generalize upd g3 n3 (some (.cells (Jr c++[.slice none 0 0,.slice none 0 0,ptr lq 0,.int .i64 0]) .exact))=g4 at k4 L4 x4 s4 ⊢
 generalize upd o3 n3 (some Cl.sys)=o4 at k4 L4 os oq
 have kk:=k3.trans k4
 refine Jey (q:=[]) (D:=D) hc L4 os x4 ⟨oq,s4.live x3,.inl ⟨rfl,rfl⟩⟩ (hD.kept kk (by simp [ZfK]) (by simp [ZfK])) (fun o5 g5 n5 W5 u5 h5=> ?_)
 exact Ja (Sub.refl _) (hK _ _ _ _ _ (kk.unc.trans u5) h5)
theorem Zdw (c:Cfg) {v:Value} {img:List Ln} (hv:Sl Xl 8 g v img)
  (hbad: ¬(Xcx c=true∧(img=[]∨(img.length:Int)=c.lines))→ ∀g' n',Sub g g'→K (.tuple #[.pointer none,.int .i64 1]) g' n')
  (hK:Xcx c=true→(img=[]∨(img.length:Int)=c.lines)→ ∀l o' g' n' W',Sub g (unc o' g')→SysH o' g' l W' (XaP c img)→K (.tuple #[ptr l 0,.int .i64 0]) g' n'):AC Za3 [.agg (Jr c).toArray,v] g n K:=by
 refine ACalls.fold Jb ?_
 rw [←XdP]
 simp only [Jd4,Qf]
 intro hn
 have s1:=(Sub.refl g).new hn (some (.cells (Jr c) .exact))
 have x1:upd g n (some (.cells (Jr c) .exact)) n=some (.cells (Jr c) .exact):=Xa _ _ _
 generalize upd g n (some (.cells (Jr c) .exact))=g1 at s1 x1 ⊢
 refine Ju x1 (by simp [Jr]) ?_
 rw [show ((Jr c).drop 0).take 7=Jr c from rfl]
 refine Zet c (fun g2 n2 s2=>Xbg (Zx (fun h=> ?_) (fun h=> ?_)))
 ·exact Ja (Sub.refl _) (hbad (fun a=>by rw [a.1] at h;cases h) _ _ (s1.trans s2))
 have hg':Xcx c=true:=by simpa using h
 have hc:=Zfn hg'
 have x2:=s2.live x1
 have s12:=s1.trans s2
 have hv2:=hv.mono s12
 have hlines:=hc.lines
 have hvol:=hc.vol
 have el:((c.lines.toNat:Nat):Int)=c.lines:=by omega
 have ev:((c.vol.toNat:Nat):Int)=c.vol:=by omega
 have dev:(img=[]∨(img.length:Int)=c.lines)→ ∀(K2:Value→G→Nat→Prop),(∀le lm o3 g3 n3,Sub g2 (unc o3 g3)→Live o3 g3→DevH o3 g3 le lm ⟨List.replicate c.lines.toNat zeroL,c.vol.toNat⟩→K2 (.tuple #[ptr le 0,.int .i64 0]) g3 n3)→AC XaX [.int .i64 c.lines,.int .i64 c.vol] g2 n2 K2:=by
  intro _ K2 hK2
  have:=Zfl (g:=g2) (n:=n2) (o:=fun _=>none) ZgH (lines:=c.lines.toNat) (vol:=c.vol.toNat) (by omega) (by omega) (by omega) (by omega) (K:=K2) (fun ld lm o3 g3 n3 k3 L3 s3 d3=>hK2 ld lm o3 g3 n3 (by have:=k3.unc;rwa [XgP] at this) L3 d3)
  rw [el,ev] at this
  exact this
 have fin1:img=[]→ ∀(t:Env) (o3:Col Cl) (g3:G) (n3 le lm:Nat),t 2=ptr n 0→t 6=ptr le 0→Sub g2 (unc o3 g3)→Live o3 g3→DevH o3 g3 le lm ⟨List.replicate c.lines.toNat zeroL,c.vol.toNat⟩→J2 AC K t g3 n3:=by
  intro hi t o3 g3 n3 le lm t2 t6 u3 L3 d3
  refine XfQ hc t2 t6 L3 (u3.live x2) d3 (fun l o' g' n' W' u' h'=>hK hg' (.inl hi) l o' g' n' W' ((s12.trans u3).trans u') ?_)
  unfold XaP ZfN
  rw [if_pos hi];exact h'
 have fin2:img≠[]→(img.length:Int)=c.lines→ ∀(t:Env) (o3:Col Cl) (g3:G) (n3 le lm:Nat),t 2=ptr n 0→t 6=ptr le 0→Sub g2 (unc o3 g3)→Live o3 g3→DevH o3 g3 le lm (Dev.fail ⟨img,c.vol.toNat⟩)→J2 AC K t g3 n3:=by
  intro hi hi2 t o3 g3 n3 le lm t2 t6 u3 L3 d3
  refine XfQ hc t2 t6 L3 (u3.live x2) d3 (fun l o' g' n' W' u' h'=>hK hg' (.inr hi2) l o' g' n' W' ((s12.trans u3).trans u') ?_)
  unfold XaP ZfN
  rw [if_neg hi];exact h'
 refine hv2.len ?_
 refine Jb0 (QB (fun h0=> ?_) (fun h0=> ?_))
 ·have hne:img≠[]:=fun e=>by rw [e] at h0;exact h0 rfl
  refine hv2.len ?_
  refine Qb x2 (show (Jr c)[0+1]? =some (.int .i64 c.lines) from rfl) (Jb0 (QB (fun h1=> ?_) (fun h1=> ?_)))
  ·exact Ja (Sub.refl _) (hbad (fun a=>a.2.elim (fun e=>hne e) (fun e=>h1 e)) _ _ s12)
  have hl:(img.length:Int)=c.lines:=by simpa using h1
  refine Qb x2 (show (Jr c)[0+1]? =some (.int .i64 c.lines) from rfl) (Qb x2 (show (Jr c)[0+2]? =some (.int .i64 c.vol) from rfl) ?_)
  refine dev (.inr hl) _ (fun le lm o3 g3 n3 u3 L3 d3=> ?_)
  simp only [Zm,Jq,Qr]
  refine Jb0 (QB (fun h=>absurd h (by decide)) (fun _=> ?_))
  have hv3:Sl Xl 8 g3 v img:=(hv2.mono u3).mono (Xq _ _)
  refine hv3.len (Jgz (QB (fun h2=> ?_) (fun h2=> ?_)))
  ·refine Jc8 L3 d3 hv3 (by simp;omega) hne (fun g4 n4 k4 L4 d4=> ?_)
   refine XeJ L4 d4 ⟨by show 1≤c.vol.toNat;omega,by show c.vol.toNat<img.length;omega,by show img.length≤64;omega⟩ (fun g5 n5 k5 L5 d5=> ?_)
   exact fin2 hne hl _ o3 g5 n5 le lm rfl rfl (u3.trans ((k4.trans k5).unc)) L5 d5
  ·exact absurd (List.length_pos_iff.2 hne) (by omega)
 ·have hi:img=[]:=List.eq_nil_of_length_eq_zero (by omega)
  refine Qb x2 (show (Jr c)[0+1]? =some (.int .i64 c.lines) from rfl) (Qb x2 (show (Jr c)[0+2]? =some (.int .i64 c.vol) from rfl) ?_)
  refine dev (.inl hi) _ (fun le lm o3 g3 n3 u3 L3 d3=> ?_)
  simp only [Zm,Jq,Qr]
  refine Jb0 (QB (fun h=>absurd h (by decide)) (fun _=> ?_))
  have hv3:Sl Xl 8 g3 v img:=(hv2.mono u3).mono (Xq _ _)
  refine hv3.len (Jgz (QB (fun h2=> ?_) (fun h2=> ?_)))
  ·rw [hi] at h2;simp at h2
  ·exact fin1 hi _ o3 g3 n3 le lm rfl rfl u3 L3 d3
end
end Go.Proofs.YtmchcjaomcdbmaaGreat.Gen
namespace Go.Proofs.YtmchcjaomcdbmaaGreat.Gen
open Go Go.Proofs.YtmchcjaomcdbmaaGreat.Abs Go.RowKit
structure Gd (A:Arr) (k:Nat):Prop where
 ok:A.ok
 wf:A.wf
 used:A.used≤k
theorem Gd.le {A:Arr} {k k':Nat} (h:Gd A k) (hk:k≤k'):Gd A k':=⟨h.ok,h.wf,by have:=h.used;omega⟩
theorem Gd.set {A:Arr} {k:Nat} (h:Gd A k) (hk:k<100000) (line state:Int) (d:Ln):Gd (A.set line state d).2 (k+1):=
 ⟨Arr.set_ok h.ok (by have:=h.used;omega) _ _ _,Arr.set_wf h.ok h.wf _ _ _,by have:=h.used;have:=(Arr.set_used A line state d).2;omega⟩
theorem Gd.touch {A:Arr} {k:Nat} (h:Gd A k) (hk:k<100000) (line:Int):Gd (A.touch line) (k+1):=
 ⟨Arr.touch_ok h.ok (by have:=h.used;omega) _,Arr.touch_wf h.ok h.wf _,by have:=h.used;have:=(Arr.touch_used A line).2;omega⟩
theorem Gd.drop {A:Arr} {k:Nat} (h:Gd A k) (line:Int):Gd (A.drop line) k:=
 ⟨Arr.drop_ok h.ok _,Arr.drop_wf h.wf _,by rw [Arr.drop_used];exact h.used⟩
theorem Gd.out {A:Arr} {k:Nat} (h:Gd A k) (hk:k<100000) (s:St):Gd (A.out s).2 (k+1):=h.set hk _ _ _
theorem Gd.ask {A:Arr} {k:Nat} (h:Gd A k) (hk:k<100000) (line state kind:Int) (d:Ln):Gd (A.ask line state kind d).2 (k+1):=by
 unfold Arr.ask
 split
 ·exact h.le (by omega)
 ·split
  ·split
   ·exact h.le (by omega)
   ·exact h.out hk _
  ·exact h.set hk _ _ _
theorem Gd.load {A:Arr} {k:Nat} (h:Gd A k) (hk:k<100000) (line word:Int):Gd (A.load line word).2 (k+1):=by
 unfold Arr.load
 split
 ·exact h.le (by omega)
 ·split
  ·exact h.touch hk _
  ·exact h.ask hk _ _ _ _
theorem Gd.reach {A:Arr} {k:Nat} (h:Gd A k) (hk:k<100000) (line:Int):Gd (A.reach line).2 (k+1):=by
 unfold Arr.reach
 split
 ·exact h.le (by omega)
 ·split
  ·exact h.ask hk _ _ _ _
  ·exact h.ask hk _ _ _ _
theorem Gd.store {A:Arr} {k:Nat} (h:Gd A k) (hk:k<100000) (line word v:Int):Gd (A.store line word v).2 (k+1):=by
 unfold Arr.store
 split
 ·exact h.le (by omega)
 ·split
  ·exact h.reach hk _
  ·exact h.set hk _ _ _
theorem Gd.hear {A:Arr} {k:Nat} (h:Gd A k) (hk:k<100000) (m:Ms):Gd (A.hear m).2.1 (k+1):=by
 unfold Arr.hear
 split
 ·exact h.le (by omega)
 ·split
  ·exact h.le (by omega)
  ·split
   ·exact h.le (by omega)
   ·split
    ·exact (h.drop _).le (by omega)
    ·exact h.set hk _ _ _
theorem Gd.evict {A:Arr} {k:Nat} (h:Gd A k) (hk:k<100000) (line:Int):Gd (A.evict line).2.1 (k+1):=by
 unfold Arr.evict
 split
 ·exact h.le (by omega)
 ·split
  ·exact h.le (by omega)
  ·exact h.out hk _
theorem gd0 {s w:Nat} (hs:s=1∨s=2∨s=4∨s=8) (h1:1≤w) (h2:w≤8):Gd (Jd9 s w) 0:=⟨Jf3 hs h1 h2,JfY s w,Int.le_refl _⟩
def Lin (A:Arr) (L:Int):Prop:= ∀s∈A.l,0≤s.line∧s.line<L
section
variable {A:Arr} {L:Int}
theorem Lin.put {line:Int} {k:Nat} {t:St} (h:Lin A L) (ht:0≤t.line∧t.line<L):Lin (A.put line k t) L:=by
 intro s hs
 rcases List.mem_or_eq_of_mem_set (show s∈A.l.set (A.from line+k) t from hs) with hs|rfl
 ·exact h s hs
 ·exact ht
theorem Lin.slotAt (h:Lin A L) (hL:0<L) (line:Int) (k:Nat):0≤(A.slotAt line k).line∧(A.slotAt line k).line<L:=by
 unfold Arr.slotAt
 rw [List.getD_eq_getElem?_getD]
 cases e:A.l[A.from line+k]? with
 | none=>exact ⟨Int.le_refl 0,hL⟩
 | some s=>exact h s (List.mem_of_getElem? e)
theorem Lin.slot (h:Lin A L) (hL:0<L) (line:Int):0≤(A.slot line).line∧(A.slot line).line<L:=by
 unfold Arr.slot Arr.find
 split
 ·exact ⟨Int.le_refl 0,hL⟩
 ·exact h.slotAt hL _ _
theorem Lin.set (h:Lin A L) {line:Int} (hl:0≤line∧line<L) (state:Int) (d:Ln):Lin (A.set line state d).2 L:=by
 unfold Arr.set
 split
 ·exact h
 ·split
  ·exact h
  ·exact Lin.put (A:=A.tick) h hl
theorem Lin.touch (h:Lin A L) (hL:0<L) (line:Int):Lin (A.touch line) L:=by
 unfold Arr.touch
 split
 ·exact h
 ·exact Lin.put (A:=A.tick) h (h.slotAt hL _ _)
theorem Lin.drop (h:Lin A L) (hL:0<L) (line:Int):Lin (A.drop line) L:=by
 unfold Arr.drop
 split
 ·exact h
 ·exact Lin.put h ⟨Int.le_refl 0,hL⟩
def MsL (L:Int) (l:List Ms):Prop:= ∀m∈l,0≤m.line∧m.line<L
theorem Lin.out (h:Lin A L) {s:St} (hs:0≤s.line∧s.line<L):MsL L (A.out s).1∧Lin (A.out s).2 L:=by
 refine ⟨fun m hm=> ?_,h.set hs _ _⟩
 rcases List.mem_singleton.1 (show m∈[QbL s] from hm) with rfl
 exact hs
theorem MsL.nil:MsL L []:=fun _ h=>nomatch h
theorem Lin.ask (h:Lin A L) (hL:0<L) {line:Int} (hl:0≤line∧line<L) (state kind:Int) (d:Ln):MsL L (A.ask line state kind d).1∧Lin (A.ask line state kind d).2 L:=by
 unfold Arr.ask
 split
 ·exact ⟨MsL.nil,h⟩
 ·split
  ·split
   ·exact ⟨MsL.nil,h⟩
   ·exact h.out (h.slot hL _)
  ·refine ⟨fun m hm=> ?_,h.set hl _ _⟩
   rcases List.mem_singleton.1 hm with rfl
   exact hl
theorem Lin.load (h:Lin A L) (hL:0<L) {line:Int} (hl:0≤line∧line<L) (word:Int):MsL L (A.load line word).1∧Lin (A.load line word).2 L:=by
 unfold Arr.load
 split
 ·exact ⟨MsL.nil,h⟩
 ·split
  ·exact ⟨MsL.nil,h.touch hL _⟩
  ·exact h.ask hL hl _ _ _
theorem Lin.reach (h:Lin A L) (hL:0<L) {line:Int} (hl:0≤line∧line<L):MsL L (A.reach line).1∧Lin (A.reach line).2 L:=by
 unfold Arr.reach
 split
 ·exact ⟨MsL.nil,h⟩
 ·split
  ·exact h.ask hL hl _ _ _
  ·exact h.ask hL hl _ _ _
theorem Lin.store (h:Lin A L) (hL:0<L) {line:Int} (hl:0≤line∧line<L) (word v:Int):MsL L (A.store line word v).1∧Lin (A.store line word v).2 L:=by
 unfold Arr.store
 split
 ·exact ⟨MsL.nil,h⟩
 ·split
  ·exact h.reach hL hl
  ·exact ⟨MsL.nil,h.set hl _ _⟩
theorem Xd6 {m:Ms} (hm:0≤m.line∧m.line<L) (s:St) (next:Int):MsL L (Jbc m s next):=by
 intro x hx
 unfold Jbc at hx
 split at hx
 ·rcases List.mem_singleton.1 hx with rfl;exact hm
 ·split at hx
  ·rcases List.mem_singleton.1 hx with rfl;exact hm
  ·cases hx
theorem Lin.hear (h:Lin A L) (hL:0<L) {m:Ms} (hm:0≤m.line∧m.line<L):MsL L (A.hear m).1∧Lin (A.hear m).2.1 L:=by
 unfold Arr.hear
 split
 ·exact ⟨MsL.nil,h⟩
 ·split
  ·exact ⟨MsL.nil,h⟩
  ·split
   ·exact ⟨MsL.nil,h⟩
   ·split
    ·exact ⟨Xd6 hm _ _,h.drop hL _⟩
    ·exact ⟨Xd6 hm _ _,h.set hm _ _⟩
theorem Lin.evict (h:Lin A L) (hL:0<L) (line:Int):MsL L (A.evict line).1∧Lin (A.evict line).2.1 L:=by
 unfold Arr.evict
 split
 ·exact ⟨MsL.nil,h⟩
 ·split
  ·exact ⟨MsL.nil,h⟩
  ·exact h.out (h.slot hL _)
theorem XgN {s w:Nat} (hL:0<L):Lin (Jd9 s w) L:=by
 intro t ht
 rcases List.mem_replicate.1 (show t∈List.replicate (s*w) J4 from ht) with ⟨_,rfl⟩
 exact ⟨Int.le_refl 0,hL⟩
end
end Go.Proofs.YtmchcjaomcdbmaaGreat.Gen
namespace Go.Proofs.YtmchcjaomcdbmaaGreat.Gen
open Go Go.Proofs.YtmchcjaomcdbmaaGreat.Abs Go.RowKit
structure Nd.wf (L:Int) (k:Nat) (N:Nd):Prop where
 gd:Gd N.A k
 lin:Lin N.A L
 up:N.up.length≤1000∧MsL L N.up
 ans:N.ans.length≤1000∧MsL L N.ans
 dn:N.dn.length≤1000∧MsL L N.dn
structure Sys.wf (S:Sys) (k:Nat):Prop where
 c:S.c.good
 nodes:S.nodes.length=S.c.cores.toNat
 dir:S.dir.length=S.c.lines.toNat
 vol:S.D.vol=S.c.vol.toNat
 mem:S.D.mem.length=S.c.lines.toNat
 q:S.q.length≤16
 inr:inR S.q S.D.mem.length
 nd: ∀(i:Nat) N,S.nodes[i]? =some N→N.wf S.c.lines k
theorem Nd.wf.le {L:Int} {k k':Nat} {N:Nd} (h:N.wf L k) (hk:k≤k'):N.wf L k':=⟨h.gd.le hk,h.lin,h.up,h.ans,h.dn⟩
section
variable {S:Sys} {k:Nat}
theorem Sys.wf.le {k':Nat} (h:S.wf k) (hk:k≤k'):S.wf k':=⟨h.c,h.nodes,h.dir,h.vol,h.mem,h.q,h.inr,fun i N e=>(h.nd i N e).le hk⟩
theorem Sys.wf.shp (h:S.wf k):S.shp:=by
 have hl:=h.c.lines
 have hv:=h.c.vol
 exact ⟨by rw [h.dir,h.mem],by rw [h.mem];omega,by rw [h.vol,h.mem];omega,by have:=h.q;omega⟩
theorem Sys.wf.fit (h:S.wf k) (hk:k<100000):S.fit:=fun i N e=>⟨(h.nd i N e).gd.ok,(h.nd i N e).gd.wf,by have:=(h.nd i N e).gd.used;omega⟩
theorem Sys.wf.line (h:S.wf k) (x:Int):S.line x=true↔0≤x∧x<S.c.lines:=by
 unfold Sys.line
 rw [decide_eq_true_eq,h.dir]
 have:=h.c.lines
 omega
theorem Sys.wf.pos (h:S.wf k):0<S.c.lines:=by have:=h.c.lines;omega
theorem Sys.wf.setN (h:S.wf k) {i:Nat} {N:Nd} (hN:N.wf S.c.lines (k+1)):(S.setN i N).wf (k+1):=by
 refine ⟨h.c,by simp only [Sys.setN,List.length_set];exact h.nodes,h.dir,h.vol,h.mem,h.q,h.inr,fun j M e=> ?_⟩
 simp only [Sys.setN] at e
 by_cases hj:i=j
 ·subst hj
  have h1:=Qd e
  rw [List.length_set] at h1
  rw [List.getElem?_set_self h1] at e
  cases e;exact hN
 ·rw [List.getElem?_set_ne hj] at e
  exact (h.nd j M e).le (by omega)
theorem Sys.wf.setN0 (h:S.wf k) {i:Nat} {N:Nd} (hN:N.wf S.c.lines k):(S.setN i N).wf k:=by
 refine ⟨h.c,by simp only [Sys.setN,List.length_set];exact h.nodes,h.dir,h.vol,h.mem,h.q,h.inr,fun j M e=> ?_⟩
 simp only [Sys.setN] at e
 by_cases hj:i=j
 ·subst hj
  have h1:=Qd e
  rw [List.length_set] at h1
  rw [List.getElem?_set_self h1] at e
  cases e;exact hN
 ·rw [List.getElem?_set_ne hj] at e
  exact h.nd j M e
theorem Sys.wf.setE (h:S.wf k) (i:Nat) (e:Ent):(S.setE i e).wf k:=⟨h.c,h.nodes,by simp only [Sys.setE,List.length_set];exact h.dir,h.vol,h.mem,h.q,h.inr,h.nd⟩
theorem Jde {L:Int} {q:List Ms} {m:Ms} (h:q.length≤1000∧MsL L q) (hm:0≤m.line∧m.line<L):(Qab q m).1.length≤1000∧MsL L (Qab q m).1:=by
 unfold Qab
 split
 ·exact h
 ·split
  ·exact h
  ·refine ⟨by simp;omega,fun x hx=> ?_⟩
   rcases List.mem_append.1 hx with hx|hx
   ·exact h.2 x hx
   ·rcases List.mem_singleton.1 hx with rfl;exact hm
theorem Jb5 {L:Int}: ∀{l q:List Ms},q.length≤1000∧MsL L q→MsL L l→(Xg q l).length≤1000∧MsL L (Xg q l)
 | [],q,h,_=>h
 | m::l,q,h,hl=>by
  have h1:=Jde h (hl m (List.mem_cons_self ..))
  exact Jb5 (l:=l) h1 (fun x hx=>hl x (List.mem_cons_of_mem _ hx))
theorem Sys.wf.ask (h:S.wf k) {i:Nat} {N:Nd} (hN:S.nodes[i]? =some N) {A':Arr} {ms:List Ms} (hg:Gd A' (k+1)) (hm:MsL S.c.lines ms∧Lin A' S.c.lines):(S.setN i { N with A:=A',up:=Xg N.up ms }).wf (k+1):=by
 have hn:=h.nd i N hN
 exact h.setN ⟨hg,hm.2,Jb5 hn.up hm.1,hn.ans,hn.dn⟩
theorem Sys.wf.load (h:S.wf k) (hk:k<100000) (core line word:Int):(S.load core line word).1.wf (k+1):=by
 unfold Sys.load
 split
 ·exact h.le (by omega)
 ·rename_i i N e
  obtain ⟨_,hN⟩:=Sys.at_some e
  have hn:=h.nd i N hN
  split
  ·exact h.le (by omega)
  ·rename_i hl
   have hl':=(h.line line).1 (by simpa using hl)
   exact h.ask hN (hn.gd.load hk _ _) (hn.lin.load h.pos hl' _)
theorem Sys.wf.store (h:S.wf k) (hk:k<100000) (core line word v:Int):(S.store core line word v).1.wf (k+1):=by
 unfold Sys.store
 split
 ·exact h.le (by omega)
 ·rename_i i N e
  obtain ⟨_,hN⟩:=Sys.at_some e
  have hn:=h.nd i N hN
  split
  ·exact h.le (by omega)
  ·rename_i hl
   have hl':=(h.line line).1 (by simpa using hl)
   exact h.ask hN (hn.gd.store hk _ _ _) (hn.lin.store h.pos hl' _ _)
theorem Sys.wf.reach (h:S.wf k) (hk:k<100000) (core line:Int):(S.reach core line).1.wf (k+1):=by
 unfold Sys.reach
 split
 ·exact h.le (by omega)
 ·rename_i i N e
  obtain ⟨_,hN⟩:=Sys.at_some e
  have hn:=h.nd i N hN
  split
  ·exact h.le (by omega)
  ·rename_i hl
   have hl':=(h.line line).1 (by simpa using hl)
   exact h.ask hN (hn.gd.reach hk _) (hn.lin.reach h.pos hl')
theorem Sys.wf.evict (h:S.wf k) (hk:k<100000) (core line:Int):(S.evict core line).1.wf (k+1):=by
 unfold Sys.evict
 split
 ·exact h.le (by omega)
 ·rename_i i N e
  obtain ⟨_,hN⟩:=Sys.at_some e
  have hn:=h.nd i N hN
  split
  ·exact h.le (by omega)
  ·exact h.ask hN (hn.gd.evict hk _) (hn.lin.evict h.pos _)
theorem Sys.wf.flush (h:S.wf k) (core line kind:Int):(S.flush core line kind).1.wf k:=by
 unfold Sys.flush
 split
 ·exact h
 ·rename_i i N e
  obtain ⟨_,hN⟩:=Sys.at_some e
  have hn:=h.nd i N hN
  split
  ·exact h
  ·split
   ·exact h
   ·rename_i hl _
    have hl':=(h.line line).1 (by simpa using hl)
    exact h.setN0 ⟨hn.gd,hn.lin,Jde hn.up hl',hn.ans,hn.dn⟩
theorem Sys.wf.hear (h:S.wf k) (hk:k<100000) (core:Int):(S.hear core).1.wf (k+1):=by
 unfold Sys.hear
 split
 ·exact h.le (by omega)
 ·rename_i i N e
  obtain ⟨_,hN⟩:=Sys.at_some e
  have hn:=h.nd i N hN
  split
  ·exact h.le (by omega)
  ·rename_i m r hq
   have hm:0≤m.line∧m.line<S.c.lines:=hn.dn.2 m (by rw [hq];simp)
   have hr:r.length≤1000∧MsL S.c.lines r:=⟨by have:=hn.dn.1;rw [hq] at this;simp at this;omega,fun x hx=>hn.dn.2 x (by rw [hq];exact List.mem_cons_of_mem _ hx)⟩
   have hl:=hn.lin.hear h.pos hm
   exact h.setN ⟨hn.gd.hear hk m,hl.2,hn.up,Jb5 hn.ans hl.1,hr⟩
theorem Sys.wf.send1 (h:S.wf k) {line:Int} (hl:0≤line∧line<S.c.lines) (x:Snd):(S.send1 line x).wf k:=by
 unfold Sys.send1
 split
 ·exact h
 ·rename_i i N e
  obtain ⟨_,hN⟩:=Sys.at_some e
  have hn:=h.nd i N hN
  exact h.setN0 ⟨hn.gd,hn.lin,hn.up,hn.ans,Jde hn.dn hl⟩
theorem Zfc (S:Sys) (line:Int) (x:Snd):(S.send1 line x).c=S.c:=by unfold Sys.send1;split<;>rfl
theorem Sys.wf.sends {line:Int}: ∀{l:List Snd} {S:Sys},S.wf k→0≤line∧line<S.c.lines→(S.sends line l).wf k
 | [],S,h,_=>h
 | x::l,S,h,hl=>Sys.wf.sends (l:=l) (h.send1 hl x) (by rw [Zfc];exact hl)
theorem Sys.wf.write (h:S.wf k) {i:Nat} {e:Ent} (hi:S.dir[i]? =some e):(S.write i e).1.wf k:=by
 unfold Sys.write
 split
 ·exact h
 ·have hlt:=Qd hi
  have hq:=h.c.queue
  refine ⟨h.c,h.nodes,h.dir,h.vol,h.mem,?_,?_,h.nd⟩
  ·show (Qaz _ _ _ _ _).1.length≤16
   unfold Qaz
   split
   ·exact h.q
   ·split
    ·exact h.q
    ·simp;omega
  ·intro x hx
   have hx':x∈(Qaz S.q S.D S.c.queue (i:Nat) e.data).1:=hx
   unfold Qaz at hx'
   split at hx'
   ·exact h.inr x hx'
   ·split at hx'
    ·exact h.inr x hx'
    ·rcases List.mem_append.1 hx' with hx'|hx'
     ·exact h.inr x hx'
     ·rcases List.mem_singleton.1 hx' with rfl
      show 0≤((i:Nat):Int)∧((i:Nat):Int)<S.D.mem.length
      rw [h.mem,←h.dir];omega
theorem Qda (S:Sys) (i:Nat) (e:Ent):(S.write i e).1.c=S.c:=by unfold Sys.write;split<;>rfl
theorem Sys.wf.push (h:S.wf k) (line:Int):(S.push line).1.wf k:=by
 unfold Sys.push
 split
 ·exact h
 ·rename_i i e he
  obtain ⟨hl,hi⟩:=Sys.ent_some he
  have hlt:=Qd hi
  split
  ·exact h
  ·split
   ·exact h.write hi
   ·split
    ·exact h.write hi
    ·refine Sys.wf.sends ((h.write hi).setE _ _) ?_
     show 0≤line∧line<(S.write i e).1.c.lines
     rw [Qda,hl]
     have:=h.dir
     omega
theorem Sys.wf.drop (h:S.wf k) (line:Int):(S.drop line).1.wf k:=by
 unfold Sys.drop
 split
 ·exact h
 ·rename_i i e he
  obtain ⟨hl,hi⟩:=Sys.ent_some he
  split
  ·exact h
  ·split
   ·exact h.write hi
   ·exact (h.write hi).setE _ _
theorem Sys.wf.drain (h:S.wf k) (line:Int):(S.drain line).1.wf k:=by
 unfold Sys.drain
 split
 ·exact h
 ·have hp:=Dev.put_len S.D
  unfold JI
  split
  ·exact h
  ·rename_i j hj
   obtain ⟨p1,p2⟩:=hp line (S.q.getD j ZS).data
   refine ⟨h.c,h.nodes,h.dir,p2.trans h.vol,p1.trans h.mem,?_,?_,h.nd⟩
   ·have:=List.length_eraseIdx_le S.q j;have:=h.q
    show (S.q.eraseIdx j).length≤16
    omega
   ·intro x hx
    show 0≤x.line∧x.line<((S.D.put line (S.q.getD j ZS).data).mem.length:Nat)
    rw [p1]
    exact h.inr x (List.mem_of_mem_eraseIdx hx)
theorem Sys.wf.here (h:S.wf k) (i:Nat) (e:Ent):(S.here i e).wf k:=by
 unfold Sys.here
 split
 ·exact h
 ·exact h.setE _ _
theorem Jd5 (S:Sys) (i:Nat) (e:Ent):(S.here i e).c=S.c:=by unfold Sys.here;split<;>rfl
theorem Qb7 (S:Sys) (i:Nat) (e:Ent):(S.here i e).nodes=S.nodes:=by unfold Sys.here;split<;>rfl
theorem Sys.wf.up (h:S.wf k) (core:Int):(S.up core).1.wf k:=by
 unfold Sys.up
 split
 ·exact h
 ·rename_i i N e
  obtain ⟨_,hN⟩:=Sys.at_some e
  have hn:=h.nd i N hN
  split
  ·exact h
  ·rename_i m r hq
   have hm:0≤m.line∧m.line<S.c.lines:=hn.up.2 m (by rw [hq];simp)
   have hr:r.length≤1000∧MsL S.c.lines r:=⟨by have:=hn.up.1;rw [hq] at this;simp at this;omega,fun x hx=>hn.up.2 x (by rw [hq];exact List.mem_cons_of_mem _ hx)⟩
   split
   ·exact h
   ·split
    ·exact h
    ·split
     ·exact h.here _ _
     ·refine Sys.wf.sends (Sys.wf.setE (Sys.wf.setN0 (h.here _ _) ?_) _ _) ?_
      ·rw [Jd5];exact ⟨hn.gd,hn.lin,hr,hn.ans,hn.dn⟩
      ·show 0≤m.line∧m.line<(S.here _ _).c.lines
       rw [Jd5];exact hm
theorem Sys.wf.answer (h:S.wf k) (core:Int):(S.answer core).1.wf k:=by
 unfold Sys.answer
 split
 ·exact h
 ·rename_i i N e
  obtain ⟨_,hN⟩:=Sys.at_some e
  have hn:=h.nd i N hN
  split
  ·exact h
  ·rename_i m r hq
   have hm:0≤m.line∧m.line<S.c.lines:=hn.ans.2 m (by rw [hq];simp)
   have hr:r.length≤1000∧MsL S.c.lines r:=⟨by have:=hn.ans.1;rw [hq] at this;simp at this;omega,fun x hx=>hn.ans.2 x (by rw [hq];exact List.mem_cons_of_mem _ hx)⟩
   have h1:(S.setN i { N with ans:=r }).wf k:=h.setN0 ⟨hn.gd,hn.lin,hn.up,hr,hn.dn⟩
   split
   ·exact h
   ·split
    ·exact h1
    ·exact Sys.wf.sends (h1.setE _ _) hm
theorem puts_len (es:List En) (D:Dev):((D.puts es).mem.length=D.mem.length)∧(D.puts es).vol=D.vol:=Dev.puts_len es D
theorem Xd8 {D:Dev} (h:D.vol≤D.mem.length):D.fail.mem.length=D.mem.length:=by
 unfold Dev.fail;simp;omega
theorem QfQ {c:Cfg} (hc:c.good) (k:Nat):(nd0 c).wf c.lines k:=by
 have hl:0<c.lines:=by have:=hc.lines;omega
 have hs:=hc.sets
 have hw:=hc.ways
 refine ⟨(gd0 (by omega) (by omega) (by omega)).le (by omega),XgN hl,⟨Nat.zero_le 1000,MsL.nil⟩,⟨Nat.zero_le 1000,MsL.nil⟩,⟨Nat.zero_le 1000,MsL.nil⟩⟩
theorem Zc8 {c:Cfg} (hc:c.good) {D:Dev} (hv:D.vol=c.vol.toNat) (hm:D.mem.length=c.lines.toNat) (k:Nat):Sys.wf ⟨c,List.replicate c.cores.toNat (nd0 c),List.replicate c.lines.toNat emptyEnt,[],D⟩ k:=by
 refine ⟨hc,by simp,by simp,hv,hm,by simp,(fun e he=>nomatch he),fun i N hN=> ?_⟩
 have:N=nd0 c:=by
  obtain ⟨_,h⟩:=List.getElem?_eq_some_iff.1 hN
  rw [List.getElem_replicate] at h;exact h.symm
 subst this
 exact QfQ hc k
theorem Sys.wf.fail (h:S.wf k) (k':Nat):S.fail.wf k':=by
 obtain ⟨p1,p2⟩:=puts_len S.q S.D
 have hl:=h.c.lines
 have hv:=h.c.vol
 refine Zc8 h.c ?_ ?_ k'
 ·show (S.D.puts S.q).vol=_;rw [p2];exact h.vol
 ·rw [Xd8 (by rw [p1,p2,h.vol,h.mem];omega),p1];exact h.mem
theorem Qfq {c:Cfg} (hc:c.good) {img:List Ln} (hi:img=[]∨(img.length:Int)=c.lines) (k:Nat):(XaP c img).wf k:=by
 have hl:=hc.lines
 have hv:=hc.vol
 refine Zc8 hc ?_ ?_ k
 ·unfold ZfN;split<;>rfl
 ·unfold ZfN
  split
  ·simp
  ·rename_i hne
   rw [Xd8 (by show c.vol.toNat≤img.length;rcases hi with e|e;exact absurd e hne;omega)]
   show img.length=_
   rcases hi with e|e
   ·exact absurd e hne
   ·omega
end
end Go.Proofs.YtmchcjaomcdbmaaGreat.Gen
namespace Go.Proofs.YtmchcjaomcdbmaaGreat.Gen
open Go Go.Proofs.YtmchcjaomcdbmaaGreat.Abs Go.RowKit
variable {g:G} {n:Nat}
structure Stp where
 kind:Int
 core:Int
 line:Int
 word:Int
 val:Int
def Zu (x:Stp):List Value:=[.int .i64 x.kind,.int .i64 x.core,.int .i64 x.line,.int .i64 x.word,.int .u64 x.val]
theorem Qbs (x:Stp):(Zu x).length=5:=rfl
def Qgl (v:Int):Int:=IntKind.i64.wrap (4+IntKind.i64.wrap (v.tmod 2))
def Sys.do (S:Sys) (x:Stp):Sys×Int×Bool×Ms×Int:=
 if x.kind=0 then ((S.load x.core x.line x.word).1,(S.load x.core x.line x.word).2.1,(S.load x.core x.line x.word).2.2,Xh,0) else
 if x.kind=1 then ((S.store x.core x.line x.word x.val).1,0,(S.store x.core x.line x.word x.val).2,Xh,0) else
 if x.kind=2 then ((S.reach x.core x.line).1,0,(S.reach x.core x.line).2,Xh,0) else
 if x.kind=3 then ((S.flush x.core x.line (Qgl x.val)).1,0,false,Xh,(S.flush x.core x.line (Qgl x.val)).2) else
 if x.kind=4 then ((S.up x.core).1,0,false,Xh,(S.up x.core).2) else
 if x.kind=5 then ((S.answer x.core).1,0,false,Xh,(S.answer x.core).2) else
 if x.kind=6 then ((S.hear x.core).1,0,false,(S.hear x.core).2.1,(S.hear x.core).2.2) else
 if x.kind=7 then ((S.push x.line).1,0,false,Xh,(S.push x.line).2) else
 if x.kind=8 then ((S.evict x.core x.line).1,0,false,Xh,(S.evict x.core x.line).2) else
 if x.kind=9 then ((S.drop x.line).1,0,false,Xh,(S.drop x.line).2) else
 if x.kind=10 then ((S.drain x.line).1,0,false,Xh,(S.drain x.line).2) else
 if x.kind=11 then (S.fail,0,false,Xh,0) else (S,0,false,Xh,0)
theorem Xa7 {c:Prop} [Decidable c] {k:Nat} {p q:Sys×Int×Bool×Ms×Int} (h1:p.1.wf k) (h2:q.1.wf k):(if c then p else q).1.wf k:=by
 by_cases h:c
 ·rw [if_pos h];exact h1
 ·rw [if_neg h];exact h2
theorem Sys.wf.do {S:Sys} {k:Nat} (h:S.wf k) (hk:k<100000) (x:Stp):(S.do x).1.wf (k+1):=by
 unfold Sys.do
 refine Xa7 (h.load hk _ _ _) (Xa7 (h.store hk _ _ _ _) (Xa7 (h.reach hk _ _) (Xa7 ((h.flush _ _ _).le (by omega)) (Xa7 ((h.up _).le (by omega)) (Xa7 ((h.answer _).le (by omega)) (Xa7 (h.hear hk _) (Xa7 ((h.push _).le (by omega)) (Xa7 (h.evict hk _ _) (Xa7 ((h.drop _).le (by omega)) (Xa7 ((h.drain _).le (by omega)) (Xa7 (h.fail _) (h.le (by omega)))))))))))))
section
variable {o:Col Cl} {l:Nat} {W:ZbA} {S:Sys} {K:Cont}
end
end Go.Proofs.YtmchcjaomcdbmaaGreat.Gen
namespace Go.Proofs.YtmchcjaomcdbmaaGreat.Gen
open Go Go.Proofs.YtmchcjaomcdbmaaGreat.Abs Go.RowKit
variable {g:G} {n:Nat}
theorem Qcx {cs:List Value} {i:Nat} {v:Value} {K:Value→Prop} (h:cs[i]? =some v) (k:K v):XaH cs i none K:=by
 unfold XaH
 exact Qb1 h k
def plainC:Cfg:=⟨2,6,1,1,2,2,2⟩
theorem Qd0:plainC.good:=⟨by decide,by decide,by decide,.inl rfl,by decide,by decide,by decide⟩
theorem Zez {K:Cont} (hK: ∀g' n',Sub g g'→K (.agg (Jr plainC).toArray) g' n'):AC X5 [] g n K:=by
 refine ACalls.fold Jb ?_
 rw [←Zbe]
 simp only [JaK,Qf]
 intro hn
 have s1:=(Sub.refl g).new hn (some (.cells [.int .i64 0,.int .i64 0,.int .i64 0,.int .i64 0,.int .i64 0,.int .i64 0,.int .i64 0] .exact))
 have x1:upd g n (some (.cells [.int .i64 0,.int .i64 0,.int .i64 0,.int .i64 0,.int .i64 0,.int .i64 0,.int .i64 0] .exact)) n=some (.cells [.int .i64 0,.int .i64 0,.int .i64 0,.int .i64 0,.int .i64 0,.int .i64 0,.int .i64 0] .exact):=Xa _ _ _
 refine ⟨rfl,by decide,rfl,by decide,rfl,by decide,rfl,by decide,rfl,by decide,rfl,by decide,rfl,by decide,rfl,?_⟩
 refine XB x1 rfl (by decide) (by intro v hv;simp at hv;rcases hv with rfl|rfl|rfl|rfl|rfl|rfl|rfl<;>rfl) ?_
 refine Ju (Xa _ _ _) (by decide) ?_
 exact Ja (Sub.refl _) (hK _ _ (s1.upd_fresh _ hn))
def wS0:Sys:=XaP plainC []
def wS1:Sys:=(wS0.store 0 3 1 7).1
def wS2:Sys:=(wS1.up 0).1
def wS3:Sys:=(wS2.hear 0).1
def wS4:Sys:=(wS3.store 0 3 1 7).1
def wS5:Sys:=(wS4.load 1 3 1).1
def wS6:Sys:=(wS5.up 1).1
def wS7:Sys:=(wS6.hear 0).1
def wS8:Sys:=(wS7.answer 0).1
def wS9:Sys:=(wS8.hear 1).1
def wSa:Sys:=(wS9.load 1 3 1).1
theorem wF0:wS0.wf 0:=Qfq Qd0 (.inl rfl) 0
theorem wF1:wS1.wf 1:=wF0.store (by decide) _ _ _ _
theorem wF2:wS2.wf 1:=wF1.up _
theorem wF3:wS3.wf 2:=wF2.hear (by decide) _
theorem wF4:wS4.wf 3:=wF3.store (by decide) _ _ _ _
theorem wF5:wS5.wf 4:=wF4.load (by decide) _ _ _
theorem wF6:wS6.wf 4:=wF5.up _
theorem wF7:wS7.wf 5:=wF6.hear (by decide) _
theorem wF8:wS8.wf 5:=wF7.answer _
theorem wF9:wS9.wf 6:=wF8.hear (by decide) _
theorem wFa:wSa.wf 7:=wF9.load (by decide) _ _ _
theorem e1:(wS0.store 0 3 1 7).2=false:=by kernel_rfl
theorem e2:(wS1.up 0).2=0:=by kernel_rfl
theorem e3:(wS2.hear 0).2.1.kind=10∧(wS2.hear 0).2.2=0:=⟨by kernel_rfl,by kernel_rfl⟩
theorem e4:(wS3.store 0 3 1 7).2=true:=by kernel_rfl
theorem ea:(wS9.load 1 3 1).2.2=true∧(wS9.load 1 3 1).2.1=7:=⟨by kernel_rfl,by kernel_rfl⟩
theorem eb:Xs (wSa.entry 3).share= .int .u8 3:=by kernel_rfl
theorem ec:(wSa.slots 0).length=1:=by kernel_rfl
theorem ed:wSa.c.cores=2:=by kernel_rfl
theorem JgA {S:Sys} {k:Nat} (h:S.wf k): ∀(i:Nat) N,S.nodes[i]? =some N→ ∀m∈N.up,S.line m.line=true:=fun i N hN m hm=>(h.line _).2 ((h.nd i N hN).up.2 m hm)
theorem Zgq {S:Sys} {k:Nat} (h:S.wf k): ∀(i:Nat) N,S.nodes[i]? =some N→ ∀m∈N.ans,S.line m.line=true:=fun i N hN m hm=>(h.line _).2 ((h.nd i N hN).ans.2 m hm)
set_option maxRecDepth 100000 in
theorem Zb6 {K:Cont} (hK: ∀g' n',K (.bool true) g' n'):AC JC [] g n K:=by
 refine ACalls.fold Jb ?_
 rw [←Qbf]
 simp only [ZaJ,zMs]
 refine Zez (fun g1 n1 s1=>Zdw plainC (img:=[]) Sl.nil (fun hb=>absurd ⟨by kernel_rfl,.inl rfl⟩ hb) (fun _ _ l o2 g2 n2 W2 u2 h2=> ?_))
 simp only [Zm,Jq,Qr]
 refine Jb0 (QB (fun h=>absurd h (by decide)) (fun _=> ?_))
 refine ZbP (Zx (fun h=>nomatch h) (fun _=> ?_))
 refine ZbF (S:=wS0) h2 (wF0.fit (by decide)) 0 3 1 7 (fun o3 g3 n3 W3 u3 h3=> ?_)
 rw [e1]
 refine Zx (fun h=>nomatch h) (fun _=> ?_)
 refine Jda (S:=wS1) h3 wF1.shp (JgA wF1) 0 (fun o4 g4 n4 W4 u4 h4=> ?_)
 rw [e2]
 refine Jb0 (QB (fun h=>absurd h (by decide)) (fun _=> ?_))
 refine Xbs (S:=wS2) h4 (wF2.fit (by decide)) 0 (fun o5 g5 n5 W5 u5 h5=> ?_)
 simp only [Zm,Jq,Qr,Qf]
 intro hn
 have s6:=(Sub.refl g5).new hn (some (.cells (Xi Xh) .exact))
 have x6:upd g5 n5 (some (.cells (Xi Xh) .exact)) n5=some (.cells (Xi Xh) .exact):=Xa _ _ _
 refine QgJ x6 ?_
 have s7:Sub g5 (upd (upd g5 n5 (some (.cells (Xi Xh) .exact))) n5 (some (.cells (Xi (wS2.hear 0).2.1) .exact))):=s6.upd_fresh _ hn
 have x7:upd (upd g5 n5 (some (.cells (Xi Xh) .exact))) n5 (some (.cells (Xi (wS2.hear 0).2.1) .exact)) n5=some (.cells (Xi (wS2.hear 0).2.1) .exact):=Xa _ _ _
 generalize upd (upd g5 n5 (some (.cells (Xi Xh) .exact))) n5 (some (.cells (Xi (wS2.hear 0).2.1) .exact))=g7 at s7 x7 ⊢
 have h7:=h5.mono s7
 rw [e3.2]
 refine Jb0 (QB (fun h=>absurd h (by decide)) (fun _=> ?_))
 refine Qe3 x7 ?_
 rw [e3.1]
 refine Jb0 (QB (fun h=>absurd h (by decide)) (fun _=> ?_))
 refine ZbF (S:=wS3) h7 (wF3.fit (by decide)) 0 3 1 7 (fun o8 g8 n8 W8 u8 h8=> ?_)
 rw [e4]
 refine Xbg (Zx (fun h=>nomatch h) (fun _=> ?_))
 refine Zbt (S:=wS4) h8 (wF4.fit (by decide)) 1 3 1 (fun o9 g9 n9 W9 u9 h9=> ?_)
 refine Jda (S:=wS5) h9 wF5.shp (JgA wF5) 1 (fun o10 g10 n10 W10 u10 h10=> ?_)
 refine Xbs (S:=wS6) h10 (wF6.fit (by decide)) 0 (fun o11 g11 n11 W11 u11 h11=> ?_)
 refine Xb9 (S:=wS7) h11 (Zgq wF7) 0 (fun o12 g12 n12 W12 u12 h12=> ?_)
 refine Xbs (S:=wS8) h12 (wF8.fit (by decide)) 1 (fun o13 g13 n13 W13 u13 h13=> ?_)
 refine Zbt (S:=wS9) h13 (wF9.fit (by decide)) 1 3 1 (fun o14 g14 n14 W14 u14 h14=> ?_)
 simp only [Zm,Jq,Qr]
 rw [ea.1,ea.2]
 refine Zx (fun _=> ?_) (fun h=>nomatch h)
 refine Zc2 (QB (fun _=> ?_) (fun h=>absurd rfl h))
 refine Ja1 (S:=wSa) h14 3 (fun g15 n15 s15=> ?_)
 have h15:=SysH.mono (S:=wSa) h14 s15
 simp only [Qf]
 refine Qcx (Jea _) ?_
 rw [eb]
 refine Zc2 (QB (fun _=> ?_) (fun h=>absurd rfl h))
 refine Xcr (S:=wSa) h15 (wFa.fit (by decide)) 0 (fun v16 g16 n16 W16 u16 h16 sl=> ?_)
 refine sl.len ?_
 rw [ec]
 refine Zc2 (QB (fun _=> ?_) (fun h=>absurd rfl h))
 refine JdF (S:=wSa) h16 (fun g17 n17 s17=> ?_)
 simp only [Qf]
 refine Qcx (show (Jr wSa.c)[0]? =some (.int .i64 wSa.c.cores) from rfl) ?_
 rw [ed]
 refine Zc2 ?_
 exact Ja (Sub.refl _) (hK _ _)
end Go.Proofs.YtmchcjaomcdbmaaGreat.Gen
namespace Go.Proofs.YtmchcjaomcdbmaaGreat.Gen
open Go Go.Proofs.YtmchcjaomcdbmaaGreat.Abs Go.RowKit
variable {g:G} {n:Nat}
theorem Xc9 (line:Int): ∀(l:List Snd) (S:Sys),(S.sends line l).c=S.c
 | [],S=>rfl
 | x::l,S=>(Xc9 line l (S.send1 line x)).trans (Zfc S line x)
theorem Jci {p:Prop} [Decidable p] {c:Cfg} {a b:Sys×Int×Bool×Ms×Int} (h1:a.1.c=c) (h2:b.1.c=c):(if p then a else b).1.c=c:=by
 by_cases h:p
 ·rw [if_pos h];exact h1
 ·rw [if_neg h];exact h2
theorem ZfT (S:Sys) (x:Stp):(S.do x).1.c=S.c:=by
 unfold Sys.do
 refine Jci ?_ (Jci ?_ (Jci ?_ (Jci ?_ (Jci ?_ (Jci ?_ (Jci ?_ (Jci ?_ (Jci ?_ (Jci ?_ (Jci ?_ (Jci ?_ ?_)))))))))))
 ·show (S.load _ _ _).1.c=_;unfold Sys.load;repeat' split
  all_goals rfl
 ·show (S.store _ _ _ _).1.c=_;unfold Sys.store;repeat' split
  all_goals rfl
 ·show (S.reach _ _).1.c=_;unfold Sys.reach;repeat' split
  all_goals rfl
 ·show (S.flush _ _ _).1.c=_;unfold Sys.flush;repeat' split
  all_goals rfl
 ·show (S.up _).1.c=_;unfold Sys.up;repeat' split
  all_goals first|rfl|exact Jd5 _ _ _|exact (Xc9 _ _ _).trans (Jd5 _ _ _)
 ·show (S.answer _).1.c=_;unfold Sys.answer;repeat' split
  all_goals first|rfl|exact Xc9 _ _ _
 ·show (S.hear _).1.c=_;unfold Sys.hear;repeat' split
  all_goals rfl
 ·show (S.push _).1.c=_;unfold Sys.push;repeat' split
  all_goals first|rfl|exact Qda _ _ _|exact (Xc9 _ _ _).trans (Qda _ _ _)
 ·show (S.evict _ _).1.c=_;unfold Sys.evict;repeat' split
  all_goals rfl
 ·show (S.drop _).1.c=_;unfold Sys.drop;repeat' split
  all_goals first|rfl|exact Qda _ _ _
 ·show (S.drain _).1.c=_;unfold Sys.drain;repeat' split
  all_goals rfl
 ·rfl
 ·rfl
section
variable {S:Sys} {k:Nat}
end
end Go.Proofs.YtmchcjaomcdbmaaGreat.Gen
namespace Go.Proofs.YtmchcjaomcdbmaaGreat.Gen
open Go Go.Proofs.YtmchcjaomcdbmaaGreat.Abs Go.RowKit
theorem ZaG (m:ZaO) (j:Int) (h0:0≤j) (h8:j<8):Zt m j=m.getLsbD j.toNat:=by
 obtain ⟨k,rfl⟩: ∃k:Nat,j=k:=⟨j.toNat,by omega⟩
 have hk:k<8:=by omega
 rw [Int.toNat_natCast]
 have: ∀(k:Fin 8) (m:Fin 256),Zt (BitVec.ofNat 8 m.1) (k.1:Nat)=(BitVec.ofNat 8 m.1).getLsbD k.1:=by decide +kernel
 have h:=this ⟨k,hk⟩ ⟨m.toNat,m.isLt⟩
 simpa using h
theorem QaG {m:ZaO} {j:Int} (h: ¬(0≤j∧j<8)):Zt m j=false:=by
 unfold Zt Q8
 rw [if_neg h];simp
theorem Qb0 (a b:ZaO) (j:Int):Zt (a ||| b) j=(Zt a j||Zt b j):=by
 by_cases h:0≤j∧j<8
 ·rw [ZaG _ _ h.1 h.2,ZaG _ _ h.1 h.2,ZaG _ _ h.1 h.2,BitVec.getLsbD_or]
 ·rw [QaG h,QaG h,QaG h];rfl
theorem XdM (a b:ZaO) (j:Int):Zt (a &&& b) j=(Zt a j&&Zt b j):=by
 by_cases h:0≤j∧j<8
 ·rw [ZaG _ _ h.1 h.2,ZaG _ _ h.1 h.2,ZaG _ _ h.1 h.2,BitVec.getLsbD_and]
 ·rw [QaG h,QaG h,QaG h];rfl
theorem JZ (a j:Int):Zt (Q8 a) j=decide (a=j∧0≤j∧j<8):=by
 by_cases h:0≤j∧j<8
 ·by_cases ha:0≤a∧a<8
  ·obtain ⟨x,rfl⟩: ∃k:Nat,j=k:=⟨j.toNat,by omega⟩
   obtain ⟨y,rfl⟩: ∃k:Nat,a=k:=⟨a.toNat,by omega⟩
   have: ∀(y x:Fin 8),Zt (Q8 (y.1:Nat)) (x.1:Nat)=decide (((y.1:Nat):Int)=(x.1:Nat)∧(0:Int)≤(x.1:Nat)∧((x.1:Nat):Int)<8):=by decide +kernel
   exact this ⟨y,by omega⟩ ⟨x,by omega⟩
  ·have e:Q8 a=0#8:=by unfold Q8;rw [if_neg ha]
   rw [e,ZaG _ _ h.1 h.2]
   rw [decide_eq_false (by omega)]
   simp
 ·rw [QaG h,decide_eq_false (by omega)]
theorem JdY (a:ZaO) (j:Int):Zt (~~~a) j=(decide (0≤j∧j<8)&& !Zt a j):=by
 by_cases h:0≤j∧j<8
 ·rw [ZaG _ _ h.1 h.2,ZaG _ _ h.1 h.2,BitVec.getLsbD_not,decide_eq_true h,decide_eq_true (show j.toNat<8 by omega)]
 ·rw [QaG h,decide_eq_false h];rfl
theorem Xac (m:ZaO) (a j:Int):Zt (m &&& ~~~(Q8 a)) j=(Zt m j&& !decide (a=j)):=by
 rw [XdM,JdY,JZ]
 by_cases h:0≤j∧j<8
 ·by_cases ha:a=j<;>simp [h,ha]
 ·rw [QaG h];rfl
theorem XD (j:Int):Zt 0#8 j=false:=by
 by_cases h:0≤j∧j<8
 ·rw [ZaG _ _ h.1 h.2];simp
 ·exact QaG h
theorem nz_has {m:ZaO}:nz m=true↔ ∃j,Zt m j=true:=by
 constructor
 ·intro h
  rw [ZgK] at h
  by_cases hh: ∃k:Fin 8,m.getLsbD k.1=true
  ·obtain ⟨k,hk⟩:=hh
   refine ⟨((k.1:Nat):Int),?_⟩
   rw [ZaG _ _ (by omega) (by omega),Int.toNat_natCast];exact hk
  ·exfalso;apply h
   apply BitVec.eq_of_getLsbD_eq
   intro i hi
   have:m.getLsbD i=false:=by
    cases e:m.getLsbD i with
    | false=>rfl
    | true=>exact absurd ⟨⟨i,hi⟩,e⟩ hh
   rw [this];simp
 ·rintro ⟨j,h⟩
  rw [ZgK]
  intro e
  rw [e,XD] at h;cases h
theorem nz_no {m:ZaO}:nz m=false↔ ∀j,Zt m j=false:=by
 constructor
 ·intro h j
  cases e:Zt m j with
  | false=>rfl
  | true=>have:=nz_has.2 ⟨j,e⟩;rw [h] at this;cases this
 ·intro h
  cases e:nz m with
  | false=>rfl
  | true=>obtain ⟨j,hj⟩:=nz_has.1 e;rw [h j] at hj;cases hj
theorem ZaV {m:ZaO} {j:Int} (h:Zt m j=true):0≤j∧j<8:=by
 by_cases hh:0≤j∧j<8
 ·exact hh
 ·rw [QaG hh] at h;cases h
theorem mem_cores {m:ZaO} {j:Int}:j∈Zaa m↔Zt m j=true:=by
 unfold Zaa
 rw [List.mem_map]
 constructor
 ·rintro ⟨k,hk,rfl⟩
  exact (List.mem_filter.1 hk).2
 ·intro h
  have:=ZaV h
  exact ⟨j.toNat,List.mem_filter.2 ⟨List.mem_range.2 (by omega),by rw [show ((j.toNat:Nat):Int)=j by omega];exact h⟩,by omega⟩
theorem JdS (m:ZaO):(Zaa m).Nodup:=by
 unfold Zaa
 refine List.pairwise_map.2 ((List.Pairwise.filter _ List.nodup_range).imp (fun h e=>h (Int.ofNat_inj.1 e)))
end Go.Proofs.YtmchcjaomcdbmaaGreat.Gen
namespace Go.Proofs.YtmchcjaomcdbmaaGreat.Gen
open Go Go.Proofs.YtmchcjaomcdbmaaGreat.Abs Go.RowKit
def upV (l:Int) (q:List Ms):List Ms:=q.filter fun m=>decide (m.line=l∧m.kind≤3)
def dnV (l:Int) (q:List Ms):List Ms:=q.filter fun m=>decide (m.line=l∧m.kind≠14)
def anV (l:Int) (q:List Ms):List Ms:=q.filter fun m=>decide (m.line=l)
def isO (E:Ent) (i:Int):Prop:=E.owner=i
def isS (E:Ent) (i:Int):Prop:=E.owner≠i∧Zt E.share i=true
def isN (E:Ent) (i:Int):Prop:=E.owner≠i∧Zt E.share i=false
def Xb0 (E:Ent) (i:Int):Prop:=(E.busy=1∨E.busy=2)∧E.who=i
inductive Base (E:Ent) (V:Ln) (i:Int):Int→Ln→List Ms→List Ms→Prop
 | r0 {d:Ln}:isN E i→ ¬Xb0 E i→Base E V i 0 d [] []
 | r1:isS E i→ ¬Xb0 E i→Base E V i 1 V [] []
 | r2:isO E i→ ¬Xb0 E i→E.data=V→Base E V i 2 V [] []
 | r3:isO E i→ ¬Xb0 E i→Base E V i 3 V [] []
 | b1 {d:Ln} {m:Ms}:isN E i→ ¬Xb0 E i→m.kind=1→Base E V i 4 d [m] []
 | b2 {d:Ln}:isN E i→E.busy=1→E.who=i→Base E V i 4 d [] []
 | b3s {d:Ln} {m:Ms}:isS E i→ ¬Xb0 E i→m.kind=8→m.data=V→Base E V i 4 d [] [m]
 | b3e {d:Ln} {m:Ms}:isO E i→ ¬Xb0 E i→m.kind=9→m.data=V→E.data=V→Base E V i 4 d [] [m]
 | c1 {d:Ln} {m:Ms}:isN E i→ ¬Xb0 E i→m.kind=2→Base E V i 5 d [m] []
 | c2 {d:Ln}:isN E i→E.busy=2→E.who=i→Base E V i 5 d [] []
 | c3 {d:Ln} {m:Ms}:isO E i→ ¬Xb0 E i→m.kind=10→m.data=V→E.data=V→Base E V i 5 d [] [m]
 | d1 {m:Ms}:isS E i→ ¬Xb0 E i→m.kind=2→Base E V i 6 V [m] []
 | d2:isS E i→E.busy=2→E.who=i→Base E V i 6 V [] []
 | d3 {m:Ms}:isO E i→ ¬Xb0 E i→m.kind=10→m.data=V→E.data=V→Base E V i 6 V [] [m]
 | e7s {d:Ln} {m:Ms}:isS E i→ ¬Xb0 E i→m.kind=3→m.dirty=false→Base E V i 7 d [m] []
 | e7o {d:Ln} {m:Ms}:isO E i→ ¬Xb0 E i→m.kind=3→m.dirty=false→E.data=V→Base E V i 7 d [m] []
 | e9 {m:Ms}:isO E i→ ¬Xb0 E i→m.kind=3→m.dirty=true→m.data=V→Base E V i 9 V [m] []
 | e8 {d:Ln} {m:Ms}:isN E i→ ¬Xb0 E i→m.kind=3→Base E V i 8 d [m] []
 | p {s:Int} {d:Ln} {m:Ms}:isN E i→ ¬Xb0 E i→s=7∨s=8∨s=9→m.kind=11→Base E V i s d [] [m]
def okW (E:Ent) (V:Ln) (i:Int) (x:Ms):Prop:=(x.dirty=true→isO E i∧x.data=V)∧(x.dirty=false→isO E i→E.data=V)
inductive Ack (E:Ent) (V:Ln) (i:Int) (x:Ms):Int→Ln→List Ms→Prop
 | i0 {d:Ln}:x.kind=6→Ack E V i x 0 d []
 | i4 {d:Ln} {m:Ms}:x.kind=6→m.kind=1→Ack E V i x 4 d [m]
 | i5 {d:Ln} {m:Ms}:x.kind=6→m.kind=2→Ack E V i x 5 d [m]
 | i8 {d:Ln} {m:Ms}:x.kind=6→m.kind=3→Ack E V i x 8 d [m]
 | k1:x.kind=7→x.kept=true→Ack E V i x 1 V []
 | k6 {m:Ms}:x.kind=7→x.kept=true→m.kind=2→Ack E V i x 6 V [m]
 | k7 {d:Ln} {m:Ms}:x.kind=7→x.kept=true→m.kind=3→m.dirty=false→Ack E V i x 7 d [m]
 | k8 {d:Ln} {m:Ms}:x.kind=7→x.kept=false→m.kind=3→Ack E V i x 8 d [m]
inductive CV (E:Ent) (V:Ln) (i:Int):Int→Ln→List Ms→List Ms→List Ms→Prop
 | rest {s:Int} {d:Ln} {U Dn:List Ms}:Zt E.wait i=false→Base E V i s d U Dn→CV E V i s d U Dn []
 | asked {s:Int} {d:Ln} {U Dn:List Ms} {x:Ms}:Zt E.wait i=true→ ¬isN E i→ ¬Xb0 E i→Base E V i s d U Dn→(x.kind=12∧(E.busy=2∨E.busy=5))∨(x.kind=13∧isO E i∧(E.busy=1∨E.busy=4))→CV E V i s d U (Dn++[x]) []
 | acked {s:Int} {d:Ln} {U:List Ms} {x:Ms}:Zt E.wait i=true→ ¬isN E i→ ¬Xb0 E i→Ack E V i x s d U→okW E V i x→(x.kind=6∧x.kept=false∧(E.busy=2∨E.busy=5))∨(x.kind=7∧isO E i∧(E.busy=1∨E.busy=4))→CV E V i s d U [] [x]
structure EI (n:Int) (E:Ent) (V M:Ln):Prop where
 good:ZbC E=true
 own:E.owner<n
 shr: ∀j,Zt E.share j=true→j<n
 who:E.busy≠0→E.who<n
 w14:E.busy=1∨E.busy=4→ ∀j,Zt E.wait j=true→E.owner=j
 h2:E.busy=2→ ∀j,(0≤j∧E.owner=j)∨Zt E.share j=true→j=E.who∨Zt E.wait j=true
 val:E.owner= -1→E.here=true→E.data=V
 mem:E.here=false→M=V
 cln:E.here=true→E.dirty=false→E.data=M
end Go.Proofs.YtmchcjaomcdbmaaGreat.Gen
namespace Go.Proofs.YtmchcjaomcdbmaaGreat.Gen
open Go Go.Proofs.YtmchcjaomcdbmaaGreat.Abs Go.RowKit
theorem Jb2 {A:Arr} (hok:A.ok) (hw:A.wf) {line:Int} (hl:0≤line):A.room line=(true,-1)∨A.room line=(false,-1)∨
  ∃s∈A.part line,s.rest∧A.room line=(false,s.line)∧0≤s.line∧(∀t∈A.part line,t.rest→s.used≤t.used)∧Has A s.line s:=by
 unfold Arr.room
 rw [if_neg (by omega)]
 by_cases hf: ∃s∈A.part line,s.state=0
 ·exact .inl (ZbX _ _ _ hf)
 ·have h0: ∀s∈A.part line,s.state≠0:=fun s hs e=>hf ⟨s,hs,e⟩
  have hm: ∀s∈A.part line,0≤s.line∧Has A s.line s:=by
   intro s hs
   obtain ⟨i,hi,_,_⟩:=Arr.part_mem hs
   exact ⟨(hw.place i s hi (h0 s hs)).1,i,hi,h0 s hs,rfl⟩
  obtain ⟨v',e,hh⟩:=Qaq (A.part line) (-1) 0 h0 (fun s hs _=>(hm s hs).1) (.inl rfl)
  rw [e]
  rcases hh with ⟨rfl,_,_⟩|⟨u,hh,_,hmin⟩
  ·exact .inr (.inl rfl)
  ·rcases hh with ⟨_,_,hh⟩|⟨s,hs,hr,rfl,rfl⟩
   ·omega
   ·exact .inr (.inr ⟨s,hs,hr,rfl,(hm s hs).1,hmin,(hm s hs).2⟩)
theorem QdS {A:Arr} {line:Int} (h:(A.slot line).state≠0): ∃k,A.at line=some k∧A.slotAt line k=A.slot line:=by
 unfold Arr.slot Arr.find at h ⊢
 cases ha:A.at line with
 | none=>rw [ha] at h;exact absurd rfl h
 | some k=>exact ⟨k,rfl,rfl⟩
section
variable {A A':Arr}
theorem Qc7 (hok:A.ok) {l:Int} (h:(A.slot l).state≠0):Has A l (A.slot l):=by
 obtain ⟨k,ha,he⟩:=QdS h
 obtain ⟨t,ht,h0,hl,hst⟩:=Arr.at_some hok ha
 rw [←he,hst]
 exact ⟨_,ht,h0,hl⟩
theorem Zao (hok:A.ok) (hw:A.wf) {l:Int} {s:St} (h:Has A l s):A.slot l=s:=by
 unfold Arr.slot
 rw [(h.find hok hw).1]
theorem Qdj (hok:A.ok) {l:Int} (h: ∀s,¬Has A l s):A.slot l=J4:=by
 unfold Arr.slot Arr.find
 cases ha:A.at l with
 | none=>rfl
 | some k=>
  obtain ⟨t,ht,h0,hl,_⟩:=Arr.at_some hok ha
  exact absurd ⟨_,ht,h0,hl⟩ (h t)
theorem ZdW (hok:A.ok) (hw:A.wf) (hok':A'.ok) (hw':A'.wf) {l:Int} (h: ∀s,Has A l s↔Has A' l s):A'.slot l=A.slot l:=by
 by_cases h0: ∃s,Has A l s
 ·obtain ⟨s,hs⟩:=h0
  rw [Zao hok hw hs,Zao hok' hw' ((h s).1 hs)]
 ·rw [Qdj hok (fun s hs=>h0 ⟨s,hs⟩),Qdj hok' (fun s hs=>h0 ⟨s,(h s).2 hs⟩)]
theorem ZdR {line l:Int} {k:Nat} {t s:St} (h:Has (A.put line k t) l s):Has A l s∨(s=t∧t.state≠0∧t.line=l):=by
 obtain ⟨i,hi,h0,hl⟩:=h
 have hi':(A.l.set (A.from line+k) t)[i]? =some s:=hi
 by_cases e:A.from line+k=i
 ·subst e
  have hlt:=Qd hi'
  rw [List.length_set] at hlt
  rw [List.getElem?_set_self hlt] at hi'
  cases hi'
  exact .inr ⟨rfl,h0,hl⟩
 ·rw [List.getElem?_set_ne e] at hi'
  exact .inl ⟨i,hi',h0,hl⟩
theorem spot (hok:A.ok) {line:Int} (hl:0≤line) {k:Nat} (h:(A.at line).or (A.free line)=some k): ∃u,A.l[A.from line+k]? =some u∧(u.state=0∨u.line=line):=by
 cases ha:A.at line with
 | none=>
  rw [ha] at h
  obtain ⟨u,h1,h2⟩:=Arr.free_some hok hl h
  exact ⟨u,h1,.inl h2⟩
 | some j=>
  rw [ha] at h;cases h
  obtain ⟨u,h1,_,h3,_⟩:=Arr.at_some hok ha
  exact ⟨u,h1,.inr h3⟩
theorem Qcn (hok:A.ok) (hw:A.wf) (hu:A.used<100000) {line st:Int} {d:Ln} {k:Nat} (hl:0≤line) (h1:1≤st) (h9:st≤9) (ho:(A.at line).or (A.free line)=some k):
  (A.set line st d).2.slot line=⟨st,line,d,A.used+1⟩∧ ∀l,l≠line→(A.set line st d).2.slot l=A.slot l:=by
 have hok':=Arr.set_ok hok hu line st d
 have hw':=Arr.set_wf hok hw line st d
 have e:(A.set line st d).2=A.tick.put line k ⟨st,line,d,A.used+1⟩:=by
  unfold Arr.set
  rw [if_neg (by omega),ho]
 obtain ⟨u,hu1,hu2⟩:=spot hok hl ho
 refine ⟨?_,fun l hne=> ?_⟩
 ·refine Zao hok' hw' ?_
  rw [e]
  refine ⟨A.from line+k,?_,by show st≠0;omega,rfl⟩
  exact List.getElem?_set_self (Qd hu1)
 ·refine ZdW hok hw hok' hw' (fun s=>⟨fun h=>h.set hok hne,fun h=> ?_⟩)
  rw [e] at h
  rcases ZdR h with h|⟨rfl,_,h⟩
  ·exact h
  ·exact absurd h.symm hne
theorem ZeF (hok:A.ok) (hw:A.wf) (hu:A.used<100000) (line l:Int):((A.touch line).slot l).state=(A.slot l).state∧((A.touch line).slot l).data=(A.slot l).data:=by
 have hok':=Arr.touch_ok hok hu line
 have hw':=Arr.touch_wf hok hw line
 cases ha:A.at line with
 | none=>
  have e:A.touch line=A:=by unfold Arr.touch;rw [ha]
  rw [e];exact ⟨rfl,rfl⟩
 | some k=>
  have e:A.touch line=A.tick.put line k { A.slotAt line k with used:=A.used+1 }:=by unfold Arr.touch;rw [ha]
  obtain ⟨t,ht,h0,hlt,hst⟩:=Arr.at_some hok ha
  by_cases hne:l=line
  ·subst hne
   have h1:Has (A.touch l) l { t with used:=A.used+1 }:=by
    rw [e,hst]
    exact ⟨A.from l+k,List.getElem?_set_self (Qd ht),h0,hlt⟩
   have h2:Has A l t:=⟨_,ht,h0,hlt⟩
   rw [Zao hok' hw' h1,Zao hok hw h2];exact ⟨rfl,rfl⟩
  ·rw [ZdW hok hw hok' hw' (l:=l) (fun s=>⟨fun h=> ?_,fun h=> ?_⟩)]
   ·exact ⟨rfl,rfl⟩
   ·rw [e]
    exact Has.put (A:=A.tick) h (fun u hu=> .inr (by
     have hu':A.l[A.from line+k]? =some u:=hu
     rw [ht] at hu';cases hu';rw [hlt];exact fun e=>hne e.symm))
   ·rw [e] at h
    rcases ZdR h with h|⟨rfl,_,h⟩
    ·exact h
    ·rw [hst] at h
     exact absurd (h.symm.trans hlt) hne
theorem Jdm (hok:A.ok) (hw:A.wf) (line:Int):(A.drop line).slot line=J4∧ ∀l,l≠line→(A.drop line).slot l=A.slot l:=by
 have hok':=Arr.drop_ok hok line
 have hw':=Arr.drop_wf hw line
 cases ha:A.at line with
 | none=>
  have e:A.drop line=A:=by unfold Arr.drop;rw [ha]
  rw [e]
  refine ⟨?_,fun _ _=>rfl⟩
  unfold Arr.slot Arr.find;rw [ha]
 | some k=>
  have e:A.drop line=A.put line k J4:=by unfold Arr.drop;rw [ha]
  obtain ⟨t,ht,h0,hlt,hst⟩:=Arr.at_some hok ha
  refine ⟨Qdj hok' (fun s hs=> ?_),fun l hne=>ZdW hok hw hok' hw' (fun s=>⟨fun h=>h.drop hok hne,fun h=> ?_⟩)⟩
  ·rw [e] at hs
   obtain ⟨i,hi,hs0,hsl⟩:=hs
   have hi':(A.l.set (A.from line+k) J4)[i]? =some s:=hi
   by_cases ei:A.from line+k=i
   ·subst ei
    rw [List.getElem?_set_self (Qd ht)] at hi'
    cases hi';exact hs0 rfl
   ·rw [List.getElem?_set_ne ei] at hi'
    have:=hw.once i (A.from line+k) s t hi' ht hs0 h0 (.inl (hsl.trans hlt.symm))
    exact ei this.symm
  ·rw [e] at h
   rcases ZdR h with h|⟨rfl,h,_⟩
   ·exact h
   ·exact absurd rfl h
theorem XdE (hok:A.ok) (h:A.idle=true) (l:Int):(A.slot l).state≤3:=by
 by_cases h0:(A.slot l).state=0
 ·omega
 ·obtain ⟨i,hi,_,_⟩:=Qc7 hok h0
  unfold Arr.idle at h
  rw [Option.isNone_iff_eq_none,List.findIdx?_eq_none_iff] at h
  have:=h _ (List.mem_filter.2 ⟨List.mem_of_getElem? hi,by simpa using h0⟩)
  unfold Qer at this
  simp only [Bool.not_eq_false',decide_eq_true_eq] at this
  exact this.2
end
end Go.Proofs.YtmchcjaomcdbmaaGreat.Gen
namespace Go.Proofs.YtmchcjaomcdbmaaGreat.Gen
open Go Go.Proofs.YtmchcjaomcdbmaaGreat.Abs Go.RowKit
def like (s t:St):Prop:=s.state=t.state∧s.data=t.data
theorem like.rfl' {s:St}:like s s:=⟨rfl,rfl⟩
inductive JbN (A A':Arr):List Ms→Prop
 | same:(∀l,like (A'.slot l) (A.slot l))→JbN A A' []
 | ask0 {line kind st:Int}:(kind=1∧st=4)∨(kind=2∧st=5)→(A.slot line).state=0→(A'.slot line).state=st→(∀l,l≠line→like (A'.slot l) (A.slot l))→JbN A A' [⟨kind,line,false,false,zeroL⟩]
 | ask1 {line:Int}:(A.slot line).state=1→(A'.slot line).state=6→(A'.slot line).data=(A.slot line).data→(∀l,l≠line→like (A'.slot l) (A.slot l))→JbN A A' [⟨2,line,false,false,zeroL⟩]
 | outc {line:Int}:(A.slot line).state=1∨(A.slot line).state=2→(A'.slot line).state=7→(∀l,l≠line→like (A'.slot l) (A.slot l))→JbN A A' [⟨3,line,false,false,zeroL⟩]
 | outd {line:Int}:(A.slot line).state=3→(A'.slot line).state=9→(A'.slot line).data=(A.slot line).data→(∀l,l≠line→like (A'.slot l) (A.slot l))→JbN A A' [⟨3,line,true,false,(A.slot line).data⟩]
section
variable {A:Arr}
theorem XdH (hok:A.ok) {line:Int} (h0:(A.slot line).state≠0):(A.slot line).line=line:=by
 obtain ⟨_,_,_,h⟩:=Qc7 hok h0;exact h
theorem JdV (hok:A.ok) (hw:A.wf) {line:Int} (h0:(A.slot line).state≠0):0≤line:=by
 obtain ⟨i,hi,_,h⟩:=Qc7 hok h0
 have:=(hw.place i _ hi h0).1
 omega
theorem Qc6 (hok:A.ok) {line:Int} (h0:(A.slot line).state≠0): ∃k,(A.at line).or (A.free line)=some k:=by
 obtain ⟨k,ha,_⟩:=QdS h0
 exact ⟨k,by rw [ha];rfl⟩
theorem JbZ (hok:A.ok) (hw:A.wf) (hu:A.used<100000) {line:Int} (h1:1≤(A.slot line).state) (h3:(A.slot line).state≤3):JbN A (A.out (A.slot line)).2 (A.out (A.slot line)).1:=by
 have h0:(A.slot line).state≠0:=by omega
 have hl:=XdH hok h0
 obtain ⟨k,hk⟩:=Qc6 hok h0
 show JbN A (A.set (A.slot line).line (QcN (A.slot line)) (A.slot line).data).2 [QbL (A.slot line)]
 rw [hl]
 have hst:1≤QcN (A.slot line)∧QcN (A.slot line)≤9:=by unfold QcN;split<;>omega
 obtain ⟨e1,e2⟩:=Qcn hok hw hu (d:=(A.slot line).data) (JdV hok hw h0) hst.1 hst.2 hk
 by_cases e:(A.slot line).state=3
 ·have em:QbL (A.slot line)=⟨3,line,true,false,(A.slot line).data⟩:=by unfold QbL;rw [hl,if_pos e,decide_eq_true e]
  rw [em]
  refine .outd e ?_ ?_ (fun l h=>by rw [e2 l h];exact like.rfl')
  ·rw [e1];unfold QcN;rw [if_pos e]
  ·rw [e1]
 ·have em:QbL (A.slot line)=⟨3,line,false,false,zeroL⟩:=by unfold QbL;rw [hl,if_neg e,decide_eq_false e]
  rw [em]
  refine .outc (by omega) ?_ (fun l h=>by rw [e2 l h];exact like.rfl')
  rw [e1];unfold QcN;rw [if_neg e]
theorem Qbh (hok:A.ok) (hw:A.wf) (hu:A.used<100000) {line state kind:Int} {d:Ln} (hl:0≤line)
  (h:(kind=1∧state=4∧((A.slot line).state≠1∧(A.slot line).state≠2∧(A.slot line).state≠3))∨(kind=2∧state=5∧((A.slot line).state≠1∧(A.slot line).state≠2∧(A.slot line).state≠3))∨(kind=2∧state=6∧(A.slot line).state=1∧d=(A.slot line).data)):JbN A (A.ask line state kind d).2 (A.ask line state kind d).1:=by
 unfold Arr.ask
 split
 ·exact .same (fun l=>like.rfl')
 ·rename_i hi
  have hi:A.idle=true:=by simpa using hi
  have hs3:=XdE hok hi line
  have hs0:=Zb1 hok hw line
  split
  ·rename_i hc
   split
   ·exact .same (fun l=>like.rfl')
   ·rename_i hv
    rcases Jb2 hok hw hl with e|e|⟨s,_,hr,e,_,_,hhs⟩
    ·rw [e] at hc;exact absurd hc.2 (by decide)
    ·rw [e] at hv;exact absurd (show (-1:Int)<0 by decide) hv
    ·rw [e]
     have hsl:A.slot s.line=s:=Zao hok hw hhs
     exact JbZ hok hw hu (by rw [hsl];exact hr.1) (by rw [hsl];exact hr.2)
  ·rename_i hc
   have spt: ∃k,(A.at line).or (A.free line)=some k:=by
    by_cases e6:state=6
    ·rcases h with h|h|h
     ·omega
     ·omega
     ·exact Qc6 hok (by rw [h.2.2.1];decide)
    ·have hr:(A.room line).1=true:=by
      cases h:(A.room line).1 with
      | true=>rfl
      | false=>exact absurd ⟨e6,h⟩ hc
     cases ha:A.at line with
     | some k=>exact ⟨k,rfl⟩
     | none=>
      cases hf:A.free line with
      | some q=>exact ⟨q,rfl⟩
      | none=>
       exfalso
       rcases Jb2 hok hw hl with e|e|⟨s,_,_,e,_⟩
       ·unfold Arr.room at e
        rw [if_neg (by omega)] at e
        have hno: ∀s∈A.part line,s.state≠0:=by
         intro s hs
         obtain ⟨i,hi,h1,h2⟩:=Arr.part_mem hs
         exact Arr.free_none hf (i-A.from line) s (by omega) (by rw [show A.from line+(i-A.from line)=i by omega];exact hi)
        obtain ⟨v',e',_⟩:=Qaq (A.part line) (-1) 0 hno (fun s hs _=>by
         obtain ⟨i,hi,_,_⟩:=Arr.part_mem hs
         exact (hw.place i s hi (hno s hs)).1) (.inl rfl)
        rw [e'] at e;cases e
       ·rw [e] at hr;cases hr
       ·rw [e] at hr;cases hr
   obtain ⟨k,hk⟩:=spt
   obtain ⟨e1,e2⟩:=Qcn hok hw hu (d:=d) hl (show 1≤state by omega) (show state≤9 by omega) hk
   show JbN A (A.set line state d).2 [⟨kind,line,false,false,zeroL⟩]
   have oth: ∀l,l≠line→like ((A.set line state d).2.slot l) (A.slot l):=fun l h=>by rw [e2 l h];exact like.rfl'
   rcases h with ⟨hk1,hs1,h⟩|⟨hk1,hs1,h⟩|⟨hk1,hs1,h,hd⟩
   ·exact .ask0 (st:=state) (.inl ⟨hk1,hs1⟩) (by omega) (by rw [e1]) oth
   ·exact .ask0 (st:=state) (.inr ⟨hk1,hs1⟩) (by omega) (by rw [e1]) oth
   ·subst hk1
    exact .ask1 h (by rw [e1];exact hs1) (by rw [e1];exact hd) oth
theorem Ze1 {s:St} (h:Jfr s=false):s.state≠1∧s.state≠2∧s.state≠3:=by
 have:=of_decide_eq_false (show decide _=false from h);omega
theorem JfX {a b:Int} (h:isW a b=true):0≤a:=by
 have:=of_decide_eq_true (show decide _=true from h);omega
theorem XeI (hok:A.ok) (hw:A.wf) (hu:A.used<100000) (line word:Int):JbN A (A.load line word).2 (A.load line word).1:=by
 unfold Arr.load
 split
 ·exact .same (fun l=>like.rfl')
 ·rename_i hi
  have hi:isW line word=true:=by simpa using hi
  split
  ·exact .same (fun l=>ZeF hok hw hu line l)
  ·rename_i hh
   refine Qbh hok hw hu (JfX hi) (.inl ⟨rfl,rfl,?_⟩)
   unfold Arr.loadHit at hh
   rw [hi] at hh
   exact Ze1 (by simpa using hh)
theorem Jd1 {line:Int} (h:A.owns line=false):(A.slot line).state≠2∧(A.slot line).state≠3:=by
 have:=of_decide_eq_false (show decide _=false from h);omega
theorem QfA {line:Int} (h:A.owns line=true):(A.slot line).state=2∨(A.slot line).state=3:=of_decide_eq_true (show decide _=true from h)
theorem XdN (hok:A.ok) (hw:A.wf) (hu:A.used<100000) (line:Int):JbN A (A.reach line).2 (A.reach line).1:=by
 unfold Arr.reach
 split
 ·exact .same (fun l=>like.rfl')
 ·rename_i hc
  have hi:isW line 0=true:=by
   cases h:isW line 0 with
   | true=>rfl
   | false=>exact absurd (.inl h) hc
  have ho:A.owns line=false:=by
   cases h:A.owns line with
   | false=>rfl
   | true=>exact absurd (.inr h) hc
  have:=Jd1 ho
  split
  ·rename_i h1
   exact Qbh hok hw hu (JfX hi) (.inr (.inr ⟨rfl,rfl,h1,rfl⟩))
  ·rename_i h1
   exact Qbh hok hw hu (JfX hi) (.inr (.inl ⟨rfl,rfl,h1,this.1,this.2⟩))
theorem Jcs (hok:A.ok) (hw:A.wf) (hu:A.used<100000) {line word v:Int} (h:A.storeHit line word=true):
  A.store line word v=([],(A.set line 3 ((A.slot line).data.put word.toNat v)).2)∧(((A.slot line).state=2∨(A.slot line).state=3)∧((A.store line word v).2.slot line).state=3∧((A.store line word v).2.slot line).data=(A.slot line).data.put word.toNat v∧ ∀l,l≠line→like ((A.store line word v).2.slot l) (A.slot l)):=by
 unfold Arr.storeHit at h
 rw [Bool.and_eq_true] at h
 have e:A.store line word v=([],(A.set line 3 ((A.slot line).data.put word.toNat v)).2):=by
  unfold Arr.store
  rw [if_neg (by rw [h.1];decide),if_neg (by rw [h.2];decide)]
 have ho:=QfA h.2
 have h0:(A.slot line).state≠0:=by omega
 obtain ⟨k,hk⟩:=Qc6 hok h0
 obtain ⟨e1,e2⟩:=Qcn hok hw hu (d:=(A.slot line).data.put word.toNat v) (JdV hok hw h0) (show (1:Int)≤3 by decide) (show (3:Int)≤9 by decide) hk
 refine ⟨e,ho,?_⟩
 rw [e]
 exact ⟨by rw [e1],by rw [e1],fun l h=>by rw [e2 l h];exact like.rfl'⟩
theorem XdI (hok:A.ok) (hw:A.wf) (hu:A.used<100000) {line word v:Int} (h:A.storeHit line word=false):JbN A (A.store line word v).2 (A.store line word v).1:=by
 unfold Arr.store
 split
 ·exact .same (fun l=>like.rfl')
 ·rename_i hi
  split
  ·exact XdN hok hw hu line
  ·rename_i ho
   unfold Arr.storeHit at h
   have hi:isW line word=true:=by simpa using hi
   have ho:A.owns line=true:=by simpa using ho
   rw [hi,ho] at h;cases h
theorem XdJ (hok:A.ok) (hw:A.wf) (hu:A.used<100000) (line:Int):JbN A (A.evict line).2.1 (A.evict line).1:=by
 unfold Arr.evict
 split
 ·exact .same (fun l=>like.rfl')
 ·rename_i hi
  have hi:A.idle=true:=by simpa using hi
  split
  ·exact .same (fun l=>like.rfl')
  ·rename_i h0
   have:=Zb1 hok hw line
   exact JbZ hok hw hu (by omega) (XdE hok hi line)
end
end Go.Proofs.YtmchcjaomcdbmaaGreat.Gen
namespace Go.Proofs.YtmchcjaomcdbmaaGreat.Gen
open Go Go.Proofs.YtmchcjaomcdbmaaGreat.Abs Go.RowKit
section
variable {E:Ent} {V:Ln} {i:Int}
theorem Xf2 {s st:Int} {d d':Ln} {U Dn An:List Ms} {m:Ms} (h:CV E V i s d U Dn An) (h0:s=0) (hm:(m.kind=1∧st=4)∨(m.kind=2∧st=5)):CV E V i st d' (U++[m]) Dn An:=by
 subst h0
 cases h with
 | rest w b=>
  cases b with
  | r0 a c=>
   rcases hm with ⟨h1,rfl⟩|⟨h1,rfl⟩
   ·exact .rest w (.b1 a c h1)
   ·exact .rest w (.c1 a c h1)
  | p _ _ h _=>omega
 | asked w nn nm b x=>
  cases b with
  | r0 a c=>exact absurd a nn
  | p _ _ h _=>omega
 | acked w nn nm a k x=>
  cases a with
  | i0 h=>
   rcases hm with ⟨h1,rfl⟩|⟨h1,rfl⟩
   ·exact .acked w nn nm (.i4 h h1) k x
   ·exact .acked w nn nm (.i5 h h1) k x
theorem Jge {d:Ln} {U Dn An:List Ms} {m:Ms} (h:CV E V i 1 d U Dn An) (hm:m.kind=2):CV E V i 6 d (U++[m]) Dn An:=by
 cases h with
 | rest w b=>
  cases b with
  | r1 a c=>exact .rest w (.d1 a c hm)
  | p _ _ h _=>omega
 | asked w nn nm b x=>
  cases b with
  | r1 a c=>exact .asked w nn nm (.d1 a c hm) x
  | p _ _ h _=>omega
 | acked w nn nm a k x=>
  cases a with
  | k1 h h'=>exact .acked w nn nm (.k6 h h' hm) k x
theorem Jgd {s:Int} {d d':Ln} {U Dn An:List Ms} {m:Ms} (h:CV E V i s d U Dn An) (hs:s=1∨s=2) (hm:m.kind=3) (hd:m.dirty=false):CV E V i 7 d' (U++[m]) Dn An:=by
 cases h with
 | rest w b=>
  cases b with
  | r1 a c=>exact .rest w (.e7s a c hm hd)
  | r2 a c e=>exact .rest w (.e7o a c hm hd e)
  | _=>omega
 | asked w nn nm b x=>
  cases b with
  | r1 a c=>exact .asked w nn nm (.e7s a c hm hd) x
  | r2 a c e=>exact .asked w nn nm (.e7o a c hm hd e) x
  | _=>omega
 | acked w nn nm a k x=>
  cases a with
  | k1 h h'=>exact .acked w nn nm (.k7 h h' hm hd) k x
  | _=>omega
theorem XfW {d:Ln} {U Dn An:List Ms} {m:Ms} (h:CV E V i 3 d U Dn An) (hm:m.kind=3) (hd:m.dirty=true) (hw:m.data=d):CV E V i 9 d (U++[m]) Dn An:=by
 cases h with
 | rest w b=>
  cases b with
  | r3 a c=>exact .rest w (.e9 a c hm hd hw)
  | p _ _ h _=>omega
 | asked w nn nm b x=>
  cases b with
  | r3 a c=>exact .asked w nn nm (.e9 a c hm hd hw) x
  | p _ _ h _=>omega
 | acked w nn nm a k x=>cases a
theorem Jek {s:Int} {d V':Ln} {U Dn An:List Ms} (h:CV E V i s d U Dn An) (hs:s=2∨s=3):CV E V' i 3 V' U Dn An∧isO E i∧d=V:=by
 cases h with
 | rest w b=>
  cases b with
  | r2 a c e=>exact ⟨.rest w (.r3 a c),a,rfl⟩
  | r3 a c=>exact ⟨.rest w (.r3 a c),a,rfl⟩
  | _=>omega
 | asked w nn nm b x=>
  cases b with
  | r2 a c e=>exact ⟨.asked w nn nm (.r3 a c) x,a,rfl⟩
  | r3 a c=>exact ⟨.asked w nn nm (.r3 a c) x,a,rfl⟩
  | _=>omega
 | acked w nn nm a k x=>
  cases a with
  | _=>omega
theorem Zfs {s:Int} {d V':Ln} {U Dn An:List Ms} (h:CV E V i s d U Dn An) (hn:isN E i):CV E V' i s d U Dn An:=by
 cases h with
 | rest w b=>
  refine .rest w ?_
  cases b with
  | r0 a c=>exact .r0 a c
  | b1 a c e=>exact .b1 a c e
  | b2 a c e=>exact .b2 a c e
  | c1 a c e=>exact .c1 a c e
  | c2 a c e=>exact .c2 a c e
  | e8 a c e=>exact .e8 a c e
  | p a c e f=>exact .p a c e f
  | r1 a=>exact absurd a.2 (by rw [hn.2];decide)
  | b3s a=>exact absurd a.2 (by rw [hn.2];decide)
  | d1 a=>exact absurd a.2 (by rw [hn.2];decide)
  | d2 a=>exact absurd a.2 (by rw [hn.2];decide)
  | e7s a=>exact absurd a.2 (by rw [hn.2];decide)
  | r2 a=>exact absurd a hn.1
  | r3 a=>exact absurd a hn.1
  | b3e a=>exact absurd a hn.1
  | c3 a=>exact absurd a hn.1
  | d3 a=>exact absurd a hn.1
  | e7o a=>exact absurd a hn.1
  | e9 a=>exact absurd a hn.1
 | asked w nn nm b x=>exact absurd hn nn
 | acked w nn nm a k x=>exact absurd hn nn
theorem Jf5 {s:Int} {d:Ln} {U Dn An:List Ms} (h:CV E V i s d U Dn An) (hs:s=1∨s=2∨s=3∨s=6):d=V:=by
 cases h with
 | rest w b=>cases b<;>first|rfl|omega
 | asked w nn nm b x=>cases b<;>first|rfl|omega
 | acked w nn nm a k x=>cases a<;>first|rfl|omega
theorem Qgw {s:Int} {d:Ln} {U Dn An:List Ms} (h:CV E V i s d U Dn An) (hs:s=2∨s=3):isO E i:=(Jek (V':=V) h hs).2.1
end
end Go.Proofs.YtmchcjaomcdbmaaGreat.Gen
namespace Go.Proofs.YtmchcjaomcdbmaaGreat.Gen
open Go Go.Proofs.YtmchcjaomcdbmaaGreat.Abs Go.RowKit
section
variable {E:Ent} {V:Ln} {i:Int}
def QfK (E:Ent) (V:Ln) (i:Int) (sl:St) (m:Ms) (U Dn An:List Ms):Prop:=
 turn m.kind sl.state≠ -1∧turn m.kind sl.state≠ -2∧turn m.kind sl.state≠sl.state∧sl.state≠0∧turn m.kind sl.state≤9∧0≤turn m.kind sl.state∧
 (turn m.kind sl.state=0→ ∀d',CV E V i 0 d' U Dn (An++Jbc m sl 0))∧
 (turn m.kind sl.state≠0→CV E V i (turn m.kind sl.state) (XbJ m sl (turn m.kind sl.state)) U Dn (An++Jbc m sl (turn m.kind sl.state)))
theorem X1 {sl:St} {m:Ms} {U Dn An:List Ms} {s t:Int} (hs:sl.state=s) (ht:turn m.kind s=t) (h1:t≠s) (h2:0≤t) (h3:t≤9) (h4:s≠0)
  (k0:t=0→ ∀d',CV E V i 0 d' U Dn (An++Jbc m sl 0)) (k1:t≠0→CV E V i t (XbJ m sl t) U Dn (An++Jbc m sl t)):QfK E V i sl m U Dn An:=by
 unfold QfK
 rw [hs,ht]
 exact ⟨by omega,by omega,h1,h4,h3,h2,k0,k1⟩
theorem XaQ {m:Ms} {s:St} {t:Int} (h1:m.kind≠12) (h2:m.kind≠13):Jbc m s t=[]:=by unfold Jbc;rw [if_neg h1,if_neg h2]
theorem Xbq {m:Ms} {s:St} {t:Int} (h:m.kind=8∨m.kind=9∨m.kind=10):XbJ m s t=m.data:=by unfold XbJ;rw [if_pos h]
theorem Xgn:turn 8 4=1:=by decide
theorem Qgn:turn 9 4=2:=by decide
theorem XdQ {s:Int} (h:s=5∨s=6):turn 10 s=2:=by rcases h with rfl|rfl<;>decide
theorem Je6 {s:Int} (h:s=7∨s=8∨s=9):turn 11 s=0:=by rcases h with rfl|rfl|rfl<;>decide
theorem QcT {s:Int} {d:Ln} {U:List Ms} {m:Ms} (h:Base E V i s d U [m]) (hn: ¬isN E i) {sl:St} (hs:sl.state=s):
  ∃t,turn m.kind s=t∧t≠s∧1≤t∧t≤9∧s≠0∧Jbc m sl t=[]∧Base E V i t (XbJ m sl t) U []:=by
 cases h with
 | b3s a c hk hd=>exact ⟨1,by rw [hk];exact Xgn,by omega,by omega,by omega,by omega,XaQ (by omega) (by omega),by rw [Xbq (.inl hk),hd];exact .r1 a c⟩
 | b3e a c hk hd he=>exact ⟨2,by rw [hk];exact Qgn,by omega,by omega,by omega,by omega,XaQ (by omega) (by omega),by rw [Xbq (.inr (.inl hk)),hd];exact .r2 a c he⟩
 | c3 a c hk hd he=>exact ⟨2,by rw [hk];exact XdQ (.inl rfl),by omega,by omega,by omega,by omega,XaQ (by omega) (by omega),by rw [Xbq (.inr (.inr hk)),hd];exact .r2 a c he⟩
 | d3 a c hk hd he=>exact ⟨2,by rw [hk];exact XdQ (.inr rfl),by omega,by omega,by omega,by omega,XaQ (by omega) (by omega),by rw [Xbq (.inr (.inr hk)),hd];exact .r2 a c he⟩
 | p a=>exact absurd a hn
theorem Qfi {s:Int} {d:Ln} {U:List Ms} {x:Ms} (w:Zt E.wait i=true) (hn: ¬isN E i) (hm: ¬Xb0 E i) (h:Base E V i s d U [])
  (hx:(x.kind=12∧(E.busy=2∨E.busy=5))∨(x.kind=13∧isO E i∧(E.busy=1∨E.busy=4))) {sl:St} (hs:sl.state=s) (hd:sl.data=d):QfK E V i sl x U [] []:=by
 have dr0:s≠3→s≠9→dr sl=false:=fun a b=>by unfold dr;rw [hs];exact decide_eq_false (by omega)
 have dr1:s=3∨s=9→dr sl=true:=fun a=>by unfold dr;rw [hs];exact decide_eq_true a
 have a12: ∀t,x.kind=12→Jbc x sl t=[⟨6,x.line,dr sl,false,if dr sl then sl.data else zeroL⟩]:=fun t e=>by unfold Jbc;rw [if_pos e]
 have a13: ∀t,x.kind=13→Jbc x sl t=[⟨7,x.line,dr sl,decide (t=1),if dr sl then sl.data else zeroL⟩]:=fun t e=>by unfold Jbc;rw [if_neg (by omega),if_pos e]
 have okc:s≠3→s≠9→(isO E i→E.data=V)→ ∀k l kp,okW E V i ⟨k,l,dr sl,kp,if dr sl then sl.data else zeroL⟩:=fun a b c k l kp=>by
  refine ⟨fun e=> ?_,fun _=>c⟩
  rw [show dr sl=false from dr0 a b] at e;cases e
 have okd:s=3∨s=9→isO E i→d=V→ ∀k l kp,okW E V i ⟨k,l,dr sl,kp,if dr sl then sl.data else zeroL⟩:=fun a b c k l kp=>by
  refine ⟨fun _=>⟨b,?_⟩,fun e=> ?_⟩
  ·show (if dr sl then sl.data else zeroL)=V
   rw [if_pos (dr1 a),hd,c]
  ·rw [show dr sl=true from dr1 a] at e;cases e
 have noS:isO E i→isS E i→False:=fun a b=>b.1 a
 rcases hx with ⟨k,hb⟩|⟨k,ho,hb⟩
 ·have ex: ∀{q:Ms},q=⟨6,x.line,dr sl,false,if dr sl then sl.data else zeroL⟩→(q.kind=6∧q.kept=false∧(E.busy=2∨E.busy=5))∨(q.kind=7∧isO E i∧(E.busy=1∨E.busy=4)):=fun e=>by subst e;exact .inl ⟨rfl,rfl,hb⟩
  cases h with
  | r0 a=>exact absurd a hn
  | b1 a=>exact absurd a hn
  | b2 a=>exact absurd a hn
  | c1 a=>exact absurd a hn
  | c2 a=>exact absurd a hn
  | e8 a=>exact absurd a hn
  | d2 a b' c=>exact absurd ⟨.inr b',c⟩ hm
  | r1 a c=>
   refine X1 (t:=0) hs (by rw [k];decide) (by omega) (by omega) (by omega) (by omega) (fun _ d'=> ?_) (fun h=>absurd rfl h)
   rw [a12 _ k]
   exact .acked w hn hm (.i0 rfl) (okc (by omega) (by omega) (fun o=>(noS o a).elim) _ _ _) (ex rfl)
  | r2 a c he=>
   refine X1 (t:=0) hs (by rw [k];decide) (by omega) (by omega) (by omega) (by omega) (fun _ d'=> ?_) (fun h=>absurd rfl h)
   rw [a12 _ k]
   exact .acked w hn hm (.i0 rfl) (okc (by omega) (by omega) (fun _=>he) _ _ _) (ex rfl)
  | r3 a c=>
   refine X1 (t:=0) hs (by rw [k];decide) (by omega) (by omega) (by omega) (by omega) (fun _ d'=> ?_) (fun h=>absurd rfl h)
   rw [a12 _ k]
   exact .acked w hn hm (.i0 rfl) (okd (.inl rfl) a rfl _ _ _) (ex rfl)
  | d1 a c e=>
   refine X1 (t:=5) hs (by rw [k];decide) (by omega) (by omega) (by omega) (by omega) (fun h=>absurd h (by decide)) (fun _=> ?_)
   rw [a12 _ k]
   exact .acked w hn hm (.i5 rfl e) (okc (by omega) (by omega) (fun o=>(noS o a).elim) _ _ _) (ex rfl)
  | e7s a c e f=>
   refine X1 (t:=8) hs (by rw [k];decide) (by omega) (by omega) (by omega) (by omega) (fun h=>absurd h (by decide)) (fun _=> ?_)
   rw [a12 _ k]
   exact .acked w hn hm (.i8 rfl e) (okc (by omega) (by omega) (fun o=>(noS o a).elim) _ _ _) (ex rfl)
  | e7o a c e f he=>
   refine X1 (t:=8) hs (by rw [k];decide) (by omega) (by omega) (by omega) (by omega) (fun h=>absurd h (by decide)) (fun _=> ?_)
   rw [a12 _ k]
   exact .acked w hn hm (.i8 rfl e) (okc (by omega) (by omega) (fun _=>he) _ _ _) (ex rfl)
  | e9 a c e f g=>
   refine X1 (t:=8) hs (by rw [k];decide) (by omega) (by omega) (by omega) (by omega) (fun h=>absurd h (by decide)) (fun _=> ?_)
   rw [a12 _ k]
   exact .acked w hn hm (.i8 rfl e) (okd (.inr rfl) a rfl _ _ _) (ex rfl)
 ·have ex: ∀{q:Ms},q.kind=7→(q.kind=6∧q.kept=false∧(E.busy=2∨E.busy=5))∨(q.kind=7∧isO E i∧(E.busy=1∨E.busy=4)):=fun e=> .inr ⟨e,ho,hb⟩
  have hD: ∀t,t≠5→t≠8→XbJ x sl t=sl.data:=fun t a b=>by unfold XbJ;rw [if_neg (by omega),if_neg (by omega)]
  cases h with
  | r0 a=>exact absurd a hn
  | b1 a=>exact absurd a hn
  | b2 a=>exact absurd a hn
  | c1 a=>exact absurd a hn
  | c2 a=>exact absurd a hn
  | e8 a=>exact absurd a hn
  | d2 a b' c=>exact absurd ⟨.inr b',c⟩ hm
  | r1 a=>exact (noS ho a).elim
  | d1 a=>exact (noS ho a).elim
  | e7s a=>exact (noS ho a).elim
  | r2 a c he=>
   refine X1 (t:=1) hs (by rw [k];decide) (by omega) (by omega) (by omega) (by omega) (fun h=>absurd h (by decide)) (fun _=> ?_)
   rw [a13 _ k,(hD 1 (by decide) (by decide)).trans hd]
   exact .acked w hn hm (.k1 rfl rfl) (okc (by omega) (by omega) (fun _=>he) _ _ _) (ex rfl)
  | r3 a c=>
   refine X1 (t:=1) hs (by rw [k];decide) (by omega) (by omega) (by omega) (by omega) (fun h=>absurd h (by decide)) (fun _=> ?_)
   rw [a13 _ k,(hD 1 (by decide) (by decide)).trans hd]
   exact .acked w hn hm (.k1 rfl rfl) (okd (.inl rfl) a rfl _ _ _) (ex rfl)
  | e7o a c e f he=>
   refine X1 (t:=8) hs (by rw [k];decide) (by omega) (by omega) (by omega) (by omega) (fun h=>absurd h (by decide)) (fun _=> ?_)
   rw [a13 _ k]
   exact .acked w hn hm (.k8 rfl rfl e) (okc (by omega) (by omega) (fun _=>he) _ _ _) (ex rfl)
  | e9 a c e f g=>
   refine X1 (t:=8) hs (by rw [k];decide) (by omega) (by omega) (by omega) (by omega) (fun h=>absurd h (by decide)) (fun _=> ?_)
   rw [a13 _ k]
   exact .acked w hn hm (.k8 rfl rfl e) (okd (.inr rfl) a rfl _ _ _) (ex rfl)
theorem QeW {s:Int} {d:Ln} {U Dn:List Ms} (h:Base E V i s d U Dn):Dn=[]∨ ∃m,Dn=[m]:=by
 cases h<;>first|exact .inl rfl|exact .inr ⟨_,rfl⟩
theorem JdW {sl:St} {m:Ms} {U Dn An:List Ms} (h:CV E V i sl.state sl.data U (m::Dn) An):QfK E V i sl m U Dn An:=by
 generalize hs:sl.state=s at h
 generalize hd:sl.data=d at h
 generalize hL:m::Dn=L at h
 cases h with
 | rest w b=>
  rcases QeW b with e|⟨y,e⟩
  ·rw [e] at hL;cases hL
  ·rw [e] at hL;cases hL
   subst e
   by_cases hn:isN E i
   ·cases b with
    | p a c f k=>
     refine X1 (t:=0) hs (by rw [k];exact Je6 f) (by omega) (by omega) (by omega) (by omega) (fun _ d'=> ?_) (fun h=>absurd rfl h)
     rw [XaQ (by omega) (by omega),List.append_nil]
     exact .rest w (.r0 a c)
    | b3s a=>exact absurd a.2 (by rw [hn.2];decide)
    | b3e a=>exact absurd a hn.1
    | c3 a=>exact absurd a hn.1
    | d3 a=>exact absurd a hn.1
   ·obtain ⟨t,t1,t2,t3,t4,t5,t6,t7⟩:=QcT b hn hs
    refine X1 hs t1 t2 (by omega) t4 t5 (fun h=>absurd h (by omega)) (fun _=> ?_)
    rw [t6,List.append_nil]
    exact .rest w t7
 | asked w nn nm b x=>
  rename_i Dn0 y
  rcases QeW b with e|⟨z,e⟩
  ·subst e
   cases hL
   exact Qfi w nn nm b x hs hd
  ·subst e
   cases hL
   obtain ⟨t,t1,t2,t3,t4,t5,t6,t7⟩:=QcT b nn hs
   refine X1 hs t1 t2 (by omega) t4 t5 (fun h=>absurd h (by omega)) (fun _=> ?_)
   rw [t6,List.append_nil]
   exact .asked w nn nm t7 x
 | acked w nn nm a k x=>cases hL
end
end Go.Proofs.YtmchcjaomcdbmaaGreat.Gen
namespace Go.Proofs.YtmchcjaomcdbmaaGreat.Gen
open Go Go.Proofs.YtmchcjaomcdbmaaGreat.Abs Go.RowKit
structure GE (E:Ent):Prop where
 lo: -1≤E.owner
 hi:E.owner<8
 ex:0≤E.owner→ ∀j,Zt E.share j=false
 nh:E.here=false→E.dirty=false∧E.owner= -1∧(∀j,Zt E.share j=false)∧E.busy=0∧E.data=zeroL
 st: ∀j,Zt E.wait j=true→Zt E.share j=true∨E.owner=j
 b0:E.busy=0→E.who=0∧ ∀j,Zt E.wait j=false
 b1:E.busy≠0→(E.busy=1∨E.busy=2∨E.busy=4∨E.busy=5)∧0≤E.who∧E.who<8
 b2:E.busy=1∨E.busy=2→ ∃j,Zt E.wait j=true
theorem stray_iff {E:Ent}:ZcX E=false↔ ∀j,Zt E.wait j=true→Zt E.share j=true∨E.owner=j:=by
 unfold ZcX
 rw [nz_no]
 constructor
 ·intro h j hw
  have:=h j
  rw [XdM,JdY,Qb0,JZ,hw] at this
  have hr:=ZaV hw
  rw [decide_eq_true hr] at this
  simp only [Bool.true_and,Bool.not_eq_false',Bool.or_eq_true,decide_eq_true_eq] at this
  exact this.imp id (fun h=>h.1)
 ·intro h j
  rw [XdM,JdY,Qb0,JZ]
  cases hw:Zt E.wait j with
  | false=>rfl
  | true=>
   have hr:=ZaV hw
   rcases h j hw with e|e
   ·rw [e];simp
   ·rw [decide_eq_true (show E.owner=j∧0≤j∧j<8 from ⟨e,hr⟩)];simp
theorem goodE_iff {E:Ent}:ZbC E=true↔GE E:=by
 constructor
 ·intro h
  unfold ZbC at h
  split at h
  ·cases h
  rename_i h1
  split at h
  ·cases h
  rename_i h2
  split at h
  ·cases h
  rename_i h3
  split at h
  ·cases h
  rename_i h4
  split at h
  ·cases h
  rename_i h5
  have ex:0≤E.owner→ ∀j,Zt E.share j=false:=fun h0=>nz_no.1 (by
   cases e:nz E.share with
   | false=>rfl
   | true=>exact absurd ⟨h0,e⟩ h3)
  have nh:E.here=false→E.dirty=false∧E.owner= -1∧(∀j,Zt E.share j=false)∧E.busy=0∧E.data=zeroL:=by
   intro hh
   have h4': ¬(E.dirty=true∨0≤E.owner∨nz E.share=true∨E.busy≠0∨E.data≠zeroL):=fun a=>h4 ⟨hh,a⟩
   refine ⟨?_,?_,nz_no.1 ?_,?_,?_⟩
   ·cases e:E.dirty with
    | false=>rfl
    | true=>exact absurd (.inl e) h4'
   ·have: ¬0≤E.owner:=fun a=>h4' (.inr (.inl a))
    omega
   ·cases e:nz E.share with
    | false=>rfl
    | true=>exact absurd (.inr (.inr (.inl e))) h4'
   ·exact Classical.byContradiction fun a=>h4' (.inr (.inr (.inr (.inl a))))
   ·exact Classical.byContradiction fun a=>h4' (.inr (.inr (.inr (.inr a))))
  have st:=stray_iff.1 (by simpa using h5)
  split at h
  ·rename_i h6
   simp only [Bool.and_eq_true,decide_eq_true_eq,Bool.not_eq_true'] at h
   exact ⟨by omega,by omega,ex,nh,st,fun _=>⟨h.1,nz_no.1 h.2⟩,fun a=>absurd h6 a,fun a=>by omega⟩
  ·rename_i h6
   split at h
   ·rename_i h7
    simp only [Bool.and_eq_true] at h
    have hc:=of_decide_eq_true (show decide _=true from h.1)
    exact ⟨by omega,by omega,ex,nh,st,fun a=>absurd a h6,fun _=>⟨by omega,hc.1,hc.2⟩,fun _=>nz_has.1 h.2⟩
   ·rename_i h7
    split at h
    ·rename_i h8
     have hc:=of_decide_eq_true (show decide _=true from h)
     exact ⟨by omega,by omega,ex,nh,st,fun a=>absurd a h6,fun _=>⟨by omega,hc.1,hc.2⟩,fun a=>absurd a h7⟩
    ·cases h
 ·intro h
  unfold ZbC
  have hlo:=h.lo
  have hhi:=h.hi
  rw [if_neg (by omega),if_neg (by omega),if_neg,if_neg,if_neg]
  ·split
   ·rename_i h6
    obtain ⟨a,b⟩:=h.b0 h6
    rw [decide_eq_true a,nz_no.2 b];rfl
   ·rename_i h6
    obtain ⟨a,b⟩:=h.b1 h6
    split
    ·rename_i h7
     rw [nz_has.2 (h.b2 h7)]
     unfold Jbb;rw [decide_eq_true b];rfl
    ·rename_i h7
     rw [if_pos (by omega)]
     unfold Jbb;rw [decide_eq_true b]
  ·rw [stray_iff.2 h.st];decide
  ·rintro ⟨hh,a⟩
   obtain ⟨p,q,r,s,t⟩:=h.nh hh
   rcases a with a|a|a|a|a
   ·rw [p] at a;cases a
   ·omega
   ·rw [nz_no.2 r] at a;cases a
   ·exact a s
   ·exact a t
  ·rintro ⟨h0,a⟩
   rw [nz_no.2 (h.ex h0)] at a;cases a
section
variable {E E':Ent} {V:Ln} {i:Int} {s:Int} {d:Ln} {U Dn An:List Ms}
theorem ZaB (h:Base E V i s d U Dn) (ho:E'.owner=i↔E.owner=i) (hs:Zt E'.share i=Zt E.share i) (hd:E.owner=i→E'.data=E.data) (hme: ¬Xb0 E i→ ¬Xb0 E' i)
  (h1:E.busy=1→E.who=i→E'.busy=1∧E'.who=i) (h2:E.busy=2→E.who=i→E'.busy=2∧E'.who=i):Base E' V i s d U Dn:=by
 have fN:isN E i→isN E' i:=fun a=>⟨fun e=>a.1 (ho.1 e),hs.trans a.2⟩
 have fS:isS E i→isS E' i:=fun a=>⟨fun e=>a.1 (ho.1 e),hs.trans a.2⟩
 have fO:isO E i→isO E' i:=fun a=>ho.2 a
 cases h with
 | r0 a c=>exact .r0 (fN a) (hme c)
 | r1 a c=>exact .r1 (fS a) (hme c)
 | r2 a c e=>exact .r2 (fO a) (hme c) ((hd a).trans e)
 | r3 a c=>exact .r3 (fO a) (hme c)
 | b1 a c e=>exact .b1 (fN a) (hme c) e
 | b2 a c e=>exact .b2 (fN a) (h1 c e).1 (h1 c e).2
 | b3s a c e f=>exact .b3s (fS a) (hme c) e f
 | b3e a c e f k=>exact .b3e (fO a) (hme c) e f ((hd a).trans k)
 | c1 a c e=>exact .c1 (fN a) (hme c) e
 | c2 a c e=>exact .c2 (fN a) (h2 c e).1 (h2 c e).2
 | c3 a c e f k=>exact .c3 (fO a) (hme c) e f ((hd a).trans k)
 | d1 a c e=>exact .d1 (fS a) (hme c) e
 | d2 a c e=>exact .d2 (fS a) (h2 c e).1 (h2 c e).2
 | d3 a c e f k=>exact .d3 (fO a) (hme c) e f ((hd a).trans k)
 | e7s a c e f=>exact .e7s (fS a) (hme c) e f
 | e7o a c e f k=>exact .e7o (fO a) (hme c) e f ((hd a).trans k)
 | e9 a c e f k=>exact .e9 (fO a) (hme c) e f k
 | e8 a c e=>exact .e8 (fN a) (hme c) e
 | p a c e f=>exact .p (fN a) (hme c) e f
theorem Ze5 {x:Ms} (h:Ack E V i x s d U):Ack E' V i x s d U:=by
 cases h with
 | i0 a=>exact .i0 a
 | i4 a b=>exact .i4 a b
 | i5 a b=>exact .i5 a b
 | i8 a b=>exact .i8 a b
 | k1 a b=>exact .k1 a b
 | k6 a b c=>exact .k6 a b c
 | k7 a b c e=>exact .k7 a b c e
 | k8 a b c=>exact .k8 a b c
theorem QbN (h:CV E V i s d U Dn An) (ho:E'.owner=i↔E.owner=i) (hs:Zt E'.share i=Zt E.share i) (hw:Zt E'.wait i=Zt E.wait i) (hd:E.owner=i→E'.data=E.data) (hb:E'.busy=E.busy) (hy:E'.who=E.who):CV E' V i s d U Dn An:=by
 have fn: ¬isN E i→ ¬isN E' i:=fun a e=>a ⟨fun x=>e.1 (ho.2 x),hs.symm.trans e.2⟩
 have fm: ¬Xb0 E i→ ¬Xb0 E' i:=fun a e=>a ⟨by rw [←hb];exact e.1,by rw [←hy];exact e.2⟩
 have fo:isO E i→isO E' i:=fun a=>ho.2 a
 cases h with
 | rest w b=>exact .rest (hw.trans w) (ZaB b ho hs hd fm (fun a c=>⟨hb.trans a,hy.trans c⟩) (fun a c=>⟨hb.trans a,hy.trans c⟩))
 | asked w nn nm b x=>exact .asked (hw.trans w) (fn nn) (fm nm) (ZaB b ho hs hd fm (fun a c=>⟨hb.trans a,hy.trans c⟩) (fun a c=>⟨hb.trans a,hy.trans c⟩)) (x.imp (fun a=>⟨a.1,by rw [hb];exact a.2⟩) (fun a=>⟨a.1,fo a.2.1,by rw [hb];exact a.2.2⟩))
 | acked w nn nm a k x=>exact .acked (hw.trans w) (fn nn) (fm nm) (Ze5 a) ⟨fun e=>⟨fo (k.1 e).1,(k.1 e).2⟩,fun e o=>(hd (ho.1 o)).trans (k.2 e (ho.1 o))⟩ (x.imp (fun a=>⟨a.1,a.2.1,by rw [hb];exact a.2.2⟩) (fun a=>⟨a.1,fo a.2.1,by rw [hb];exact a.2.2⟩))
theorem Xah (h:CV E V i s d U Dn An) (hb:E.busy=0):An=[]∧Base E V i s d U Dn∧Zt E.wait i=false:=by
 cases h with
 | rest w b=>exact ⟨rfl,b,w⟩
 | asked w nn nm b x=>omega
 | acked w nn nm a k x=>omega
theorem Qfz {x:Ms} {r:List Ms} (h:CV E V i s d U Dn (x::r)):r=[]∧Dn=[]∧Zt E.wait i=true∧ ¬isN E i∧ ¬Xb0 E i∧Ack E V i x s d U∧okW E V i x∧((x.kind=6∧x.kept=false∧(E.busy=2∨E.busy=5))∨(x.kind=7∧isO E i∧(E.busy=1∨E.busy=4))):=by
 cases h with
 | acked w nn nm a k x=>exact ⟨rfl,rfl,w,nn,nm,a,k,x⟩
end
end Go.Proofs.YtmchcjaomcdbmaaGreat.Gen
namespace Go.Proofs.YtmchcjaomcdbmaaGreat.Gen
open Go Go.Proofs.YtmchcjaomcdbmaaGreat.Abs Go.RowKit
def Qu (j:Int) (l:List Snd):List Ms:=(l.filter fun x=>decide (x.to=j)).map (·.m)
theorem Xcc {α:Type} [DecidableEq α] (j:α): ∀{l:List α},l.Nodup→l.filter (fun x=>decide (x=j))=if j∈l then [j] else []
 | [],_=>by simp
 | x::l,h=>by
  obtain ⟨h1,h2⟩:=List.nodup_cons.1 h
  have ih:=Xcc j h2
  rw [List.filter_cons]
  by_cases e:x=j
  ·subst e
   rw [if_pos (by simp),ih,if_neg h1,if_pos (by simp)]
  ·rw [if_neg (by simpa using e),ih]
   by_cases hm:j∈l
   ·rw [if_pos hm,if_pos (by simp [hm])]
   ·rw [if_neg hm,if_neg (by simp [hm,Ne.symm e])]
theorem Qav (c:ZaO) (y:Ms) (j:Int):Qu j ((Zaa c).map fun to=>(⟨to,y⟩:Snd))=if Zt c j=true then [y] else []:=by
 unfold Qu
 rw [List.filter_map]
 have:((fun x:Snd=>decide (x.to=j))∘fun to=>(⟨to,y⟩:Snd))=fun to=>decide (to=j):=rfl
 rw [this,Xcc j (JdS c)]
 by_cases h:Zt c j=true
 ·rw [if_pos (mem_cores.2 h),if_pos h];rfl
 ·rw [if_neg (fun a=>h (mem_cores.1 a)),if_neg h];rfl
theorem Q9 (i:Int) (y:Ms) (j:Int):Qu j [(⟨i,y⟩:Snd)]=if i=j then [y] else []:=by
 unfold Qu
 by_cases h:i=j
 ·rw [if_pos h,List.filter_cons,if_pos (by simpa using h)];rfl
 ·rw [if_neg h,List.filter_cons,if_neg (by simpa using h)];rfl
theorem Jap (kind:Int): ∀(l:List Int) (m:Mov),(m.tells kind l).e=m.e∧(m.tells kind l).out=m.out++l.map fun to=>(⟨to,m.said kind⟩:Snd)
 | [],m=>⟨rfl,by simp [Mov.tells]⟩
 | t::l,m=>by
  obtain ⟨a,b⟩:=Jap kind l (m.tell t kind)
  refine ⟨a,?_⟩
  show ((m.tell t kind).tells kind l).out=_
  rw [b]
  simp only [Mov.tell,List.map_cons,List.append_assoc,List.singleton_append]
  rfl
section
variable {E:Ent} {V M:Ln} {n:Int}
theorem QaU (h:EI n E V M):GE E:=goodE_iff.1 h.good
theorem Xc8 (h:EI n E V M) (h8:n≤8) (hb:E.busy=0) (hh:E.here=true) {b i:Int} {c:ZaO} (h0:0≤i) (hi:i<n) (hc: ∀j,Zt c j=true→Zt E.share j=true∨E.owner=j)
  (hk:(b=2∨b=5)∨((b=1∨b=4)∧ ∀j,Zt c j=true→E.owner=j)) (hx:b=1∨b=2→ ∃j,Zt c j=true) (h2:b=2→ ∀j,(0≤j∧E.owner=j)∨Zt E.share j=true→j=i∨Zt c j=true):
  EI n { E with busy:=b,who:=i,wait:=c } V M:=by
 have g:=QaU h
 refine ⟨goodE_iff.2 ⟨g.lo,g.hi,g.ex,fun a=>(by rw [show E.here=false from a] at hh;cases hh),hc,fun a=> ?_,fun _=>⟨?_,h0,Int.lt_of_lt_of_le hi h8⟩,hx⟩,h.own,h.shr,fun _=>hi,fun a=> ?_,h2,h.val,h.mem,h.cln⟩
 ·have a:b=0:=a
  omega
 ·show b=1∨b=2∨b=4∨b=5
  omega
 ·have a:b=1∨b=4:=a
  rcases hk with hk|hk
  ·omega
  ·exact hk.2
theorem Jdf {b i j:Int} {c:ZaO} {s:Int} {d:Ln} {U Dn An:List Ms} {y:Ms} (hb:E.busy=0) (h:CV E V j s d U Dn An) (hj:0≤j) (hc:Zt c j=true→Zt E.share j=true∨E.owner=j)
  (hex:0≤E.owner→ ∀j,Zt E.share j=false) (hme: ¬((b=1∨b=2)∧i=j)) (hk:Zt c j=true→(y.kind=12∧(b=2∨b=5))∨(y.kind=13∧E.owner=j∧(b=1∨b=4))):
  CV { E with busy:=b,who:=i,wait:=c } V j s d U (Dn++if Zt c j=true then [y] else []) An:=by
 obtain ⟨rfl,hB,hw⟩:=Xah h hb
 have hB':Base { E with busy:=b,who:=i,wait:=c } V j s d U Dn:=ZaB hB Iff.rfl rfl (fun _=>rfl) (fun _=>hme) (fun a=>by omega) (fun a=>by omega)
 by_cases hcj:Zt c j=true
 ·rw [if_pos hcj]
  refine .asked hcj ?_ hme hB' ((hk hcj).imp id id)
  rintro ⟨a1,a2⟩
  rcases hc hcj with e|e
  ·have a2':Zt E.share j=false:=a2
   rw [e] at a2';cases a2'
  ·exact a1 e
 ·rw [if_neg hcj,List.append_nil]
  exact .rest (by simpa using hcj) hB'
theorem Ze6 (h:EI n E V M) (h8:n≤8) (hb:E.busy=0) (hh:E.here=true) {i:Int} (h0:0≤i) (hi:i<n):EI n { E with owner:=i,share:=0#8 } V M:=by
 have g:=QaU h
 refine ⟨goodE_iff.2 ⟨by show -1≤i;omega,by show i<8;omega,fun _ j=>XD j,fun a=>(by rw [show E.here=false from a] at hh;cases hh),fun j a=> ?_,g.b0,g.b1,g.b2⟩,hi,fun j a=> ?_,h.who,fun a=> ?_,fun a=> ?_,fun a=> ?_,h.mem,h.cln⟩
 ·have:=(g.b0 hb).2 j
  have a:Zt E.wait j=true:=a
  rw [this] at a;cases a
 ·have a:Zt 0#8 j=true:=a
  rw [XD] at a;cases a
 ·have a:E.busy=1∨E.busy=4:=a
  omega
 ·have a:E.busy=2:=a
  omega
 ·have a:i= -1:=a
  omega
theorem Je9 {i j:Int} {s:Int} {d:Ln} {U Dn An:List Ms} (hb:E.busy=0) (hj:0≤j) (hne:j≠i) (ho:E.owner= -1) (hs:Zt E.share j=false) (h:CV E V j s d U Dn An):CV { E with owner:=i,share:=0#8 } V j s d U Dn An:=by
 refine QbN h ⟨fun e=> ?_,fun e=> ?_⟩ ?_ rfl (fun _=>rfl) rfl rfl
 ·have e:i=j:=e
  exact absurd e.symm hne
 ·rw [ho] at e;omega
 ·rw [hs];exact XD j
theorem Je0 (h:EI n E V M) (h8:n≤8) (hb:E.busy=0) (hh:E.here=true) {i:Int} (h0:0≤i) (hi:i<n) (ho:E.owner= -1):EI n { E with share:=E.share ||| Q8 i } V M:=by
 have g:=QaU h
 refine ⟨goodE_iff.2 ⟨g.lo,g.hi,fun a=> ?_,fun a=>(by rw [show E.here=false from a] at hh;cases hh),fun j a=> ?_,g.b0,g.b1,g.b2⟩,h.own,fun j a=> ?_,h.who,h.w14,fun a=> ?_,h.val,h.mem,h.cln⟩
 ·have a:0≤E.owner:=a
  omega
 ·have:=(g.b0 hb).2 j
  have a:Zt E.wait j=true:=a
  rw [this] at a;cases a
 ·have a:Zt (E.share ||| Q8 i) j=true:=a
  rw [Qb0,JZ,Bool.or_eq_true] at a
  rcases a with a|a
  ·exact h.shr j a
  ·have:=of_decide_eq_true a;omega
 ·have a:E.busy=2:=a
  omega
theorem JeT {i j:Int} {s:Int} {d:Ln} {U Dn An:List Ms} (hne:j≠i) (h:CV E V j s d U Dn An):CV { E with share:=E.share ||| Q8 i } V j s d U Dn An:=by
 refine QbN h Iff.rfl ?_ rfl (fun _=>rfl) rfl rfl
 show Zt (E.share ||| Q8 i) j=_
 rw [Qb0,JZ,decide_eq_false (fun a=>hne a.1.symm),Bool.or_false]
end
end Go.Proofs.YtmchcjaomcdbmaaGreat.Gen
namespace Go.Proofs.YtmchcjaomcdbmaaGreat.Gen
open Go Go.Proofs.YtmchcjaomcdbmaaGreat.Abs Go.RowKit
section
variable {E:Ent} {V M:Ln} {n i:Int} {s:Int} {d:Ln} {x:Ms} {U Dn:List Ms}
theorem Jfe (h:Base E V i s d (x::U) Dn) (hk:x.kind=1):s=4∧U=[]∧Dn=[]∧isN E i:=by
 generalize hL:x::U=L at h
 cases h<;>first|(cases hL;omega)|(cases hL;done)|(cases hL;exact ⟨rfl,rfl,rfl,by assumption⟩)
theorem Qfh (h:Base E V i s d (x::U) Dn) (hk:x.kind=2):U=[]∧Dn=[]∧((s=5∧isN E i)∨(s=6∧isS E i∧d=V)):=by
 generalize hL:x::U=L at h
 cases h<;>first|(cases hL;omega)|(cases hL;done)|(cases hL;exact ⟨rfl,rfl,.inl ⟨rfl,by assumption⟩⟩)|(cases hL;exact ⟨rfl,rfl,.inr ⟨rfl,by assumption,rfl⟩⟩)
theorem Xfp (h:Base E V i s d (x::U) Dn) (hk:x.kind=3):U=[]∧Dn=[]∧(s=7∨s=8∨s=9)∧(isS E i∨(isO E i∧x.dirty=false∧E.data=V)∨(isO E i∧x.dirty=true∧x.data=V)∨isN E i):=by
 generalize hL:x::U=L at h
 cases h with
 | e7s a c e f=>cases hL;exact ⟨rfl,rfl,by omega,.inl a⟩
 | e7o a c e f g=>cases hL;exact ⟨rfl,rfl,by omega,.inr (.inl ⟨a,f,g⟩)⟩
 | e9 a c e f g=>cases hL;exact ⟨rfl,rfl,by omega,.inr (.inr (.inl ⟨a,f,g⟩))⟩
 | e8 a c e=>cases hL;exact ⟨rfl,rfl,by omega,.inr (.inr (.inr a))⟩
 | b1 a c e=>cases hL;omega
 | c1 a c e=>cases hL;omega
 | d1 a c e=>cases hL;omega
 | _=>cases hL
theorem Jcb (hb:E.busy=0) (i:Int): ¬Xb0 E i:=fun a=>by have:=a.1;omega
def QaO (n:Int) (E:Ent) (V:Ln) (s:Int→Int) (d:Int→Ln) (U Dn An:Int→List Ms):Prop:= ∀j,0≤j→j<n→CV E V j (s j) (d j) (U j) (Dn j) (An j)
structure QcB (n:Int) (E':Ent) (out:List Snd) (V M:Ln) (i:Int) (s:Int→Int) (d:Int→Ln) (U Dn An:Int→List Ms) (U':List Ms):Prop where
 ei:EI n E' V M
 cv: ∀j,0≤j→j<n→CV E' V j (s j) (d j) (if j=i then U' else U j) (Dn j++Qu j out) (An j)
variable {s:Int→Int} {d:Int→Ln} {U Dn An:Int→List Ms} {U':List Ms}
theorem QfX (h:EI n E V M) (h8:n≤8) (hb:E.busy=0) (hh:E.here=true) (h0:0≤i) (hi:i<n) (hk:x.kind=1) (hv:QaO n E V s d U Dn An) (hU:U i=x::U') (line:Int):
  QcB n (Mov.getS ⟨E,line,[]⟩ i).e (Mov.getS ⟨E,line,[]⟩ i).out V M i s d U Dn An U':=by
 have g:=QaU h
 obtain ⟨_,bi,wi⟩:=Xah (hv i h0 hi) hb
 rw [hU] at bi
 obtain ⟨hs,rfl,hDi,hN⟩:=Jfe bi hk
 have ai:=(Xah (hv i h0 hi) hb).1
 unfold Mov.getS
 by_cases hA:0≤E.owner∧E.owner≠i
 ·rw [if_pos hA]
  have hout:(Mov.wait ⟨E,line,[]⟩ 1 i (Q8 E.owner) 13).out=(Zaa (Q8 E.owner)).map fun to=>(⟨to,⟨13,line,false,false,zeroL⟩⟩:Snd):=by
   unfold Mov.wait
   rw [(Jap _ _ _).2];rfl
  have he:(Mov.wait ⟨E,line,[]⟩ 1 i (Q8 E.owner) 13).e={ E with busy:=1,who:=i,wait:=Q8 E.owner }:=by
   unfold Mov.wait
   rw [(Jap _ _ _).1]
  rw [he,hout]
  have hc: ∀j,Zt (Q8 E.owner) j=true→E.owner=j:=fun j a=>by rw [JZ] at a;exact (of_decide_eq_true a).1
  refine ⟨Xc8 h h8 hb hh h0 hi (fun j a=> .inr (hc j a)) (.inr ⟨.inl rfl,hc⟩) (fun _=>⟨E.owner,?_⟩) (fun a=>absurd a (by decide)),fun j hj hjn=> ?_⟩
  ·rw [JZ];exact decide_eq_true ⟨rfl,hA.1,g.hi⟩
  ·rw [Qav]
   by_cases e:j=i
   ·subst e
    rw [if_pos rfl]
    have:Zt (Q8 E.owner) j=false:=by rw [JZ];exact decide_eq_false (fun a=>hA.2 a.1)
    rw [this,if_neg (by decide),List.append_nil,hDi,ai,hs]
    exact .rest this (.b2 hN rfl rfl)
   ·rw [if_neg e]
    exact Jdf hb (hv j hj hjn) hj (fun a=> .inr (hc j a)) g.ex (fun a=>e a.2.symm) (fun a=> .inr ⟨rfl,hc j a,.inl rfl⟩)
 ·rw [if_neg hA]
  have ho:E.owner= -1:=by
   have:=g.lo
   have:=hN.1
   by_cases h:0≤E.owner
   ·exact absurd ⟨h,this⟩ hA
   ·omega
  by_cases hz:nz E.share=false
  ·rw [if_pos hz]
   have hsh:=nz_no.1 hz
   show QcB n { E with owner:=i,share:=0#8 } [⟨i,⟨9,line,false,false,E.data⟩⟩] V M i s d U Dn An []
   refine ⟨Ze6 h h8 hb hh h0 hi,fun j hj hjn=> ?_⟩
   rw [Q9]
   by_cases e:j=i
   ·subst e
    rw [if_pos rfl,if_pos rfl,hDi,ai,hs]
    exact .rest wi (.b3e rfl (Jcb hb _) rfl (h.val ho hh) (h.val ho hh))
   ·rw [if_neg e,if_neg (fun a=>e a.symm),List.append_nil]
    exact Je9 hb hj e ho (hsh j) (hv j hj hjn)
  ·rw [if_neg hz]
   show QcB n { E with share:=E.share ||| Q8 i } [⟨i,⟨8,line,false,false,E.data⟩⟩] V M i s d U Dn An []
   refine ⟨Je0 h h8 hb hh h0 hi ho,fun j hj hjn=> ?_⟩
   rw [Q9]
   by_cases e:j=i
   ·subst e
    rw [if_pos rfl,if_pos rfl,hDi,ai,hs]
    refine .rest wi (.b3s ⟨hN.1,?_⟩ (Jcb hb _) rfl (h.val ho hh))
    show Zt (E.share ||| Q8 j) j=true
    rw [Qb0,JZ,decide_eq_true ⟨rfl,h0,by omega⟩,Bool.or_true]
   ·rw [if_neg e,if_neg (fun a=>e a.symm),List.append_nil]
    exact JeT e (hv j hj hjn)
theorem Qa3 (E:Ent) (j:Int):Zt E.holders j=(Zt E.share j||decide (E.owner=j∧0≤j∧j<8)):=by unfold Ent.holders;rw [Qb0,JZ]
theorem Xge (h:EI n E V M) (h8:n≤8) (hb:E.busy=0) (hh:E.here=true) (h0:0≤i) (hi:i<n) (hk:x.kind=2) (hv:QaO n E V s d U Dn An) (hU:U i=x::U') (line:Int):
  QcB n (Mov.getM ⟨E,line,[]⟩ i).e (Mov.getM ⟨E,line,[]⟩ i).out V M i s d U Dn An U':=by
 have g:=QaU h
 obtain ⟨_,bi,wi⟩:=Xah (hv i h0 hi) hb
 rw [hU] at bi
 obtain ⟨rfl,hDi,hs⟩:=Qfh bi hk
 have ai:=(Xah (hv i h0 hi) hb).1
 have hni:E.owner≠i:=by rcases hs with ⟨_,a⟩|⟨_,a,_⟩<;>exact a.1
 unfold Mov.getM
 by_cases hz:nz (E.holders &&& ~~~(Q8 i))=false
 ·rw [if_pos hz]
  have hno: ∀j,j≠i→Zt E.share j=false∧(0≤j→j<8→E.owner≠j):=by
   intro j hj
   have:=nz_no.1 hz j
   have hne:decide (i=j)=false:=decide_eq_false (fun a=>hj a.symm)
   rw [Xac,Qa3,hne] at this
   simp only [Bool.not_false,Bool.and_true,Bool.or_eq_false_iff,decide_eq_false_iff_not] at this
   exact ⟨this.1,fun a b c=>this.2 ⟨c,a,b⟩⟩
  have ho:E.owner= -1:=by
   have h1:=g.lo
   have h2:=g.hi
   by_cases hx:0≤E.owner
   ·exact absurd rfl ((hno E.owner hni).2 hx h2)
   ·omega
  show QcB n { E with owner:=i,share:=0#8 } [⟨i,⟨10,line,false,false,E.data⟩⟩] V M i s d U Dn An []
  refine ⟨Ze6 h h8 hb hh h0 hi,fun j hj hjn=> ?_⟩
  rw [Q9]
  by_cases e:j=i
  ·subst e
   rw [if_pos rfl,if_pos rfl,hDi,ai]
   rcases hs with ⟨hs,_⟩|⟨hs,_,hd⟩
   ·rw [hs];exact .rest wi (.c3 rfl (Jcb hb _) rfl (h.val ho hh) (h.val ho hh))
   ·rw [hs,hd];exact .rest wi (.d3 rfl (Jcb hb _) rfl (h.val ho hh) (h.val ho hh))
  ·rw [if_neg e,if_neg (fun a=>e a.symm),List.append_nil]
   exact Je9 hb hj e ho (hno j e).1 (hv j hj hjn)
 ·rw [if_neg hz]
  have hout:(Mov.wait ⟨E,line,[]⟩ 2 i (E.holders &&& ~~~(Q8 i)) 12).out=(Zaa (E.holders &&& ~~~(Q8 i))).map fun to=>(⟨to,⟨12,line,false,false,zeroL⟩⟩:Snd):=by
   unfold Mov.wait
   rw [(Jap _ _ _).2];rfl
  have he:(Mov.wait ⟨E,line,[]⟩ 2 i (E.holders &&& ~~~(Q8 i)) 12).e={ E with busy:=2,who:=i,wait:=E.holders &&& ~~~(Q8 i) }:=by
   unfold Mov.wait
   rw [(Jap _ _ _).1]
  show QcB n (Mov.wait ⟨E,line,[]⟩ 2 i (E.holders &&& ~~~(Q8 i)) 12).e (Mov.wait ⟨E,line,[]⟩ 2 i (E.holders &&& ~~~(Q8 i)) 12).out V M i s d U Dn An []
  rw [he,hout]
  have hc: ∀j,Zt (E.holders &&& ~~~(Q8 i)) j=true→Zt E.share j=true∨E.owner=j:=fun j a=>by
   rw [Xac,Qa3,Bool.and_eq_true,Bool.or_eq_true] at a
   exact a.1.imp id (fun a=>(of_decide_eq_true a).1)
  refine ⟨Xc8 h h8 hb hh h0 hi hc (.inl (.inl rfl)) (fun _=>nz_has.1 (by simpa using hz)) (fun _ j a=> ?_),fun j hj hjn=> ?_⟩
  ·by_cases e:j=i
   ·exact .inl e
   ·right
    have hne:decide (i=j)=false:=decide_eq_false (fun a=>e a.symm)
    rw [Xac,Qa3,hne]
    rcases a with ⟨a0,a⟩|a
    ·have:=g.hi
     have hy:decide (E.owner=j∧0≤j∧j<8)=true:=decide_eq_true ⟨a,a0,by omega⟩
     rw [hy];simp
    ·rw [a];rfl
  ·rw [Qav]
   by_cases e:j=i
   ·subst e
    rw [if_pos rfl]
    have:Zt (E.holders &&& ~~~(Q8 j)) j=false:=by rw [Xac];simp
    rw [this,if_neg (by decide),List.append_nil,hDi,ai]
    rcases hs with ⟨hs,hN⟩|⟨hs,hS,hd⟩
    ·rw [hs];exact .rest this (.c2 hN rfl rfl)
    ·rw [hs,hd];exact .rest this (.d2 hS rfl rfl)
   ·rw [if_neg e]
    exact Jdf hb (hv j hj hjn) hj (hc j) g.ex (fun a=>e a.2.symm) (fun _=> .inl ⟨rfl,.inl rfl⟩)
theorem Xf6 (h:EI n E V M) (h8:n≤8) (hb:E.busy=0) (hh:E.here=true) (h0:0≤i) (hi:i<n) (hv:QaO n E V s d U Dn An) (line:Int):
  QcB n (Mov.clean ⟨E,line,[]⟩ i).e (Mov.clean ⟨E,line,[]⟩ i).out V M i s d U Dn An (U i)∧QcB n (Mov.wipe ⟨E,line,[]⟩ i).e (Mov.wipe ⟨E,line,[]⟩ i).out V M i s d U Dn An (U i):=by
 have g:=QaU h
 have same: ∀j,(if j=i then U i else U j)=U j:=fun j=>by
  by_cases e:j=i
  ·subst e;rw [if_pos rfl]
  ·rw [if_neg e]
 constructor
 ·have hout:(Mov.clean ⟨E,line,[]⟩ i).out=(Zaa (Q8 E.owner)).map fun to=>(⟨to,⟨13,line,false,false,zeroL⟩⟩:Snd):=by
   unfold Mov.clean Mov.wait
   rw [(Jap _ _ _).2];rfl
  have he:(Mov.clean ⟨E,line,[]⟩ i).e={ E with busy:=4,who:=i,wait:=Q8 E.owner }:=by
   unfold Mov.clean Mov.wait
   rw [(Jap _ _ _).1]
  rw [he,hout]
  have hc: ∀j,Zt (Q8 E.owner) j=true→E.owner=j:=fun j a=>by rw [JZ] at a;exact (of_decide_eq_true a).1
  refine ⟨Xc8 h h8 hb hh h0 hi (fun j a=> .inr (hc j a)) (.inr ⟨.inr rfl,hc⟩) (fun a=>by omega) (fun a=>absurd a (by decide)),fun j hj hjn=> ?_⟩
  rw [Qav,same]
  exact Jdf hb (hv j hj hjn) hj (fun a=> .inr (hc j a)) g.ex (fun a=>by omega) (fun a=> .inr ⟨rfl,hc j a,.inr rfl⟩)
 ·have hout:(Mov.wipe ⟨E,line,[]⟩ i).out=(Zaa E.holders).map fun to=>(⟨to,⟨12,line,false,false,zeroL⟩⟩:Snd):=by
   unfold Mov.wipe Mov.wait
   rw [(Jap _ _ _).2];rfl
  have he:(Mov.wipe ⟨E,line,[]⟩ i).e={ E with busy:=5,who:=i,wait:=E.holders }:=by
   unfold Mov.wipe Mov.wait
   rw [(Jap _ _ _).1]
  rw [he,hout]
  have hc: ∀j,Zt E.holders j=true→Zt E.share j=true∨E.owner=j:=fun j a=>by
   rw [Qa3,Bool.or_eq_true] at a
   exact a.imp id (fun a=>(of_decide_eq_true a).1)
  refine ⟨Xc8 h h8 hb hh h0 hi hc (.inl (.inr rfl)) (fun a=>by omega) (fun a=>absurd a (by decide)),fun j hj hjn=> ?_⟩
  rw [Qav,same]
  exact Jdf hb (hv j hj hjn) hj (hc j) g.ex (fun a=>by omega) (fun _=> .inl ⟨rfl,.inr rfl⟩)
theorem QfV (h:EI n E V M) (h8:n≤8) (hb:E.busy=0) (hh:E.here=true) (h0:0≤i) (hi:i<n) (hk:x.kind=3) (hv:QaO n E V s d U Dn An) (hU:U i=x::U') (line:Int):
  QcB n (Mov.put ⟨E,line,[]⟩ i x).e (Mov.put ⟨E,line,[]⟩ i x).out V M i s d U Dn An U':=by
 have g:=QaU h
 obtain ⟨_,bi,wi⟩:=Xah (hv i h0 hi) hb
 rw [hU] at bi
 obtain ⟨rfl,hDi,hs,hx⟩:=Xfp bi hk
 have ai:=(Xah (hv i h0 hi) hb).1
 have nw:=(g.b0 hb).2
 have key: ∀E':Ent,EI n E' V M→isN E' i→E'.busy=0→E'.wait=E.wait→E'.who=E.who→(∀j,j≠i→(E'.owner=j↔E.owner=j)∨j<0)→(∀j,j≠i→Zt E'.share j=Zt E.share j)→(∀j,0≤j→j≠i→E.owner=j→E'.data=E.data)→
   QcB n E' [⟨i,⟨11,line,false,false,zeroL⟩⟩] V M i s d U Dn An []:=by
  intro E' ei hN hb' hw hy ho hsh hd
  refine ⟨ei,fun j hj hjn=> ?_⟩
  rw [Q9]
  by_cases e:j=i
  ·subst e
   rw [if_pos rfl,if_pos rfl,hDi,ai]
   exact .rest (by rw [hw];exact wi) (.p hN (Jcb hb' _) hs rfl)
  ·rw [if_neg e,if_neg (fun a=>e a.symm),List.append_nil]
   exact QbN (hv j hj hjn) ((ho j e).resolve_right (by omega)) (hsh j e) (by rw [hw]) (hd j hj e) (hb'.trans hb.symm) hy
 by_cases ho:E.owner=i
 ·have hsh:=g.ex (by omega)
  have take:(Ent.take { E with owner:= -1 } x).owner= -1∧(Ent.take { E with owner:= -1 } x).share=E.share∧(Ent.take { E with owner:= -1 } x).busy=E.busy∧(Ent.take { E with owner:= -1 } x).who=E.who∧(Ent.take { E with owner:= -1 } x).wait=E.wait∧(Ent.take { E with owner:= -1 } x).here=E.here:=by
   unfold Ent.take;split<;>exact ⟨rfl,rfl,rfl,rfl,rfl,rfl⟩
  obtain ⟨t1,t2,t3,t4,t5,t6⟩:=take
  have hval:(Ent.take { E with owner:= -1 } x).data=V:=by
   rcases hx with a|⟨_,a,b⟩|⟨_,a,b⟩|a
   ·exact absurd ho a.1
   ·unfold Ent.take;rw [if_neg (by rw [a];decide)];exact b
   ·unfold Ent.take;rw [if_pos a];exact b
   ·exact absurd ho a.1
  have hcln:(Ent.take { E with owner:= -1 } x).dirty=false→(Ent.take { E with owner:= -1 } x).data=M:=by
   unfold Ent.take
   split
   ·intro a;cases a
   ·exact fun a=>h.cln hh a
  have e1:(Mov.put ⟨E,line,[]⟩ i x).e=Ent.take { E with owner:= -1 } x:=by unfold Mov.put Mov.tell;simp only;rw [if_pos ho]
  have e2:(Mov.put ⟨E,line,[]⟩ i x).out=[⟨i,⟨11,line,false,false,zeroL⟩⟩]:=by unfold Mov.put Mov.tell;rfl
  rw [e1,e2]
  refine key _ ⟨goodE_iff.2 ⟨(by rw [t1];omega),(by rw [t1];omega),(fun a=>by rw [t1] at a;omega),(fun a=>by rw [t6,hh] at a;cases a),(fun j a=>by rw [t5,nw j] at a;cases a),(fun _=>by rw [t4,t5];exact g.b0 hb),(fun a=>absurd (t3.trans hb) a),(fun a=>by rw [t3] at a;omega)⟩,(by rw [t1];omega),(fun j a=>by rw [t2] at a;exact h.shr j a),(fun a=>absurd (t3.trans hb) a),(fun a=>by rw [t3] at a;omega),(fun a=>by rw [t3] at a;omega),(fun _ _=>hval),(fun a=>by rw [t6,hh] at a;cases a),(fun _=>hcln)⟩
   ⟨by rw [t1];omega,by rw [t2];exact hsh i⟩ (t3.trans hb) t5 t4 (fun j e=> ?_) (fun j _=>by rw [t2]) (fun j _ e a=>absurd (a.symm.trans ho) e)
  by_cases hj:j<0
  ·exact .inr hj
  ·exact .inl ⟨fun a=>by rw [t1] at a;omega,fun a=>absurd (a.symm.trans ho) e⟩
 ·have e1:(Mov.put ⟨E,line,[]⟩ i x).e={ E with share:=E.share &&& ~~~(Q8 i) }:=by unfold Mov.put Mov.tell;simp only;rw [if_neg ho]
  have e2:(Mov.put ⟨E,line,[]⟩ i x).out=[⟨i,⟨11,line,false,false,zeroL⟩⟩]:=by unfold Mov.put Mov.tell;rfl
  rw [e1,e2]
  have sub: ∀j,Zt (E.share &&& ~~~(Q8 i)) j=true→Zt E.share j=true:=fun j a=>by rw [Xac,Bool.and_eq_true] at a;exact a.1
  refine key _ ⟨goodE_iff.2 ⟨g.lo,g.hi,fun a j=> ?_,fun a=>(by rw [show E.here=false from a] at hh;cases hh),(fun j a=>by have a:Zt E.wait j=true:=a;rw [nw j] at a;cases a),g.b0,g.b1,g.b2⟩,h.own,fun j a=>h.shr j (sub j a),h.who,h.w14,fun a=> ?_,h.val,h.mem,h.cln⟩ ⟨ho,?_⟩ hb rfl rfl (fun j _=> .inl Iff.rfl) (fun j e=> ?_) (fun j _ _ _=>rfl)
  ·show Zt (E.share &&& ~~~(Q8 i)) j=false
   rw [Xac,g.ex a j];rfl
  ·have a:E.busy=2:=a
   omega
  ·show Zt (E.share &&& ~~~(Q8 i)) i=false
   rw [Xac];simp
  ·show Zt (E.share &&& ~~~(Q8 i)) j=_
   rw [Xac,decide_eq_false (fun a=>e a.symm)];simp
end
end Go.Proofs.YtmchcjaomcdbmaaGreat.Gen
namespace Go.Proofs.YtmchcjaomcdbmaaGreat.Gen
open Go Go.Proofs.YtmchcjaomcdbmaaGreat.Abs Go.RowKit
section
variable {E:Ent} {V M:Ln} {n i:Int} {x:Ms} {s:Int→Int} {d:Int→Ln} {U Dn An:Int→List Ms} {U':List Ms}
theorem Zee (h:EI n E V M) (h8:n≤8) (hb:E.busy=0) (hh:E.here=true) (h0:0≤i) (hi:i<n) (hg:Xy x=true) (hk:Qb6 x.kind=true) (hv:QaO n E V s d U Dn An) (hU:U i=if x.kind≤3 then x::U' else U'):
  (Xax E i x).2.2=0∧QcB n (Xax E i x).1 (Xax E i x).2.1 V M i s d U Dn An U':=by
 have hc:Jbb i=true:=decide_eq_true ⟨h0,by omega⟩
 have e:Xax E i x=((Mov.asked ⟨E,x.line,[]⟩ i x).e,(Mov.asked ⟨E,x.line,[]⟩ i x).out,0):=by
  unfold Xax
  rw [if_neg (by rw [h.good,hc,hg,hk];simp),if_neg (by omega),if_neg (by rw [hh];decide)]
 have hk':=of_decide_eq_true (show decide _=true from hk)
 rw [e]
 refine ⟨rfl,?_⟩
 unfold Mov.asked
 by_cases k1:x.kind=1
 ·rw [if_pos k1];rw [if_pos (by omega)] at hU
  exact QfX h h8 hb hh h0 hi k1 hv hU _
 rw [if_neg k1]
 by_cases k2:x.kind=2
 ·rw [if_pos k2];rw [if_pos (by omega)] at hU
  exact Xge h h8 hb hh h0 hi k2 hv hU _
 rw [if_neg k2]
 by_cases k3:x.kind=3
 ·rw [if_pos k3];rw [if_pos (by omega)] at hU
  exact QfV h h8 hb hh h0 hi k3 hv hU _
 rw [if_neg k3]
 rw [if_neg (by omega)] at hU
 subst hU
 obtain ⟨f1,f2⟩:=Xf6 h h8 hb hh h0 hi hv x.line
 by_cases k4:x.kind=4
 ·rw [if_pos k4];exact f1
 ·rw [if_neg k4];exact f2
theorem XcZ (E:Ent) (i:Int) (x:Ms):(E.lose i x).here=E.here∧(E.lose i x).busy=E.busy∧(E.lose i x).who=E.who∧(E.lose i x).wait=E.wait &&& ~~~(Q8 i)∧
  (E.lose i x).owner=(if E.owner=i then -1 else E.owner)∧(E.lose i x).share=(if x.kept=true then (E.share &&& ~~~(Q8 i)) ||| Q8 i else E.share &&& ~~~(Q8 i))∧
  (E.lose i x).data=(if x.dirty=true then x.data else E.data)∧(E.lose i x).dirty=(if x.dirty=true then true else E.dirty):=by
 unfold Ent.lose Ent.take
 by_cases h1:x.dirty=true
 ·by_cases h2:E.owner=i
  ·by_cases h3:x.kept=true
   ·simp [h1,h2,h3]
   ·simp [h1,h2,h3]
  ·by_cases h3:x.kept=true
   ·simp [h1,h2,h3]
   ·simp [h1,h2,h3]
 ·by_cases h2:E.owner=i
  ·by_cases h3:x.kept=true
   ·simp [h1,h2,h3]
   ·simp [h1,h2,h3]
  ·by_cases h3:x.kept=true
   ·simp [h1,h2,h3]
   ·simp [h1,h2,h3]
structure Zgg (n:Int) (E:Ent) (V M:Ln) (s:Int→Int) (d:Int→Ln) (U Dn An:Int→List Ms):Prop where
 lo: -1≤E.owner
 own:E.owner<n
 ex:0≤E.owner→ ∀j,Zt E.share j=false
 here:E.here=true
 st: ∀j,Zt E.wait j=true→Zt E.share j=true∨E.owner=j
 busy:E.busy=1∨E.busy=2∨E.busy=4∨E.busy=5
 who:0≤E.who∧E.who<n
 shr: ∀j,Zt E.share j=true→j<n
 w14:E.busy=1∨E.busy=4→ ∀j,Zt E.wait j=true→E.owner=j
 o1:E.busy=1→0≤E.owner→Zt E.wait E.owner=true
 h2:E.busy=2→ ∀j,(0≤j∧E.owner=j)∨Zt E.share j=true→j=E.who∨Zt E.wait j=true
 val:E.owner= -1→E.data=V
 cln:E.dirty=false→E.data=M
 cv:QaO n E V s d U Dn An
theorem XeM (h:EI n E V M) (h8:n≤8) (h0:0≤i) (hi:i<n) (hv:QaO n E V s d U Dn An) {r:List Ms} (hx:An i=x::r):
  r=[]∧E.busy≠0∧Zt E.wait i=true∧Xaf x.kind=true∧Zgg n (E.lose i x) V M s d U Dn (fun j=>if j=i then [] else An j):=by
 have g:=QaU h
 have hc:=hv i h0 hi
 rw [hx] at hc
 obtain ⟨rfl,hDi,hw,hnn,hnm,hack,hok,hkk⟩:=Qfz hc
 obtain ⟨f1,f2,f3,f4,f5,f6,f7,f8⟩:=XcZ E i x
 have ho1:E.busy=1→0≤E.owner→Zt E.wait E.owner=true:=fun a _=>by
  obtain ⟨j,hj⟩:=g.b2 (.inl a)
  rw [h.w14 (.inl a) j hj];exact hj
 have hb:E.busy≠0:=by rcases hkk with a|a<;>omega
 have hh:E.here=true:=by
  cases e:E.here with
  | true=>rfl
  | false=>exact absurd (g.nh e).2.2.2.1 hb
 have kO:x.kept=true→isO E i:=fun a=>by
  rcases hkk with b|b
  ·rw [b.2.1] at a;cases a
  ·exact b.2.1
 have sh: ∀j,j≠i→Zt (E.lose i x).share j=Zt E.share j:=by
  intro j hj
  rw [f6]
  have e1:decide (i=j)=false:=decide_eq_false (fun a=>hj a.symm)
  split
  ·rw [Qb0,Xac,JZ,e1,decide_eq_false (fun a=>hj a.1.symm)];simp
  ·rw [Xac,e1];simp
 have shi:Zt (E.lose i x).share i=x.kept:=by
  rw [f6]
  split
  ·rename_i a
   have e1:decide (i=i∧0≤i∧i<8)=true:=decide_eq_true ⟨rfl,h0,by omega⟩
   rw [Qb0,Xac,JZ,e1,a];simp
  ·rename_i a
   rw [Xac]
   have a':x.kept=false:=by simpa using a
   rw [a'];simp
 have wa: ∀j,Zt (E.lose i x).wait j=(Zt E.wait j&& !decide (i=j)):=fun j=>by rw [f4,Xac]
 have oj: ∀j,0≤j→j≠i→((E.lose i x).owner=j↔E.owner=j):=by
  intro j hj0 hj
  rw [f5]
  split
  ·rename_i e;exact ⟨fun a=>by omega,fun a=>absurd (a.symm.trans e) hj⟩
  ·exact Iff.rfl
 have oi:(E.lose i x).owner≠i:=by rw [f5];split<;>omega
 have dat: ∀j,j≠i→E.owner=j→(E.lose i x).data=E.data:=by
  intro j hj e
  rw [f7]
  split
  ·rename_i a;exact absurd ((hok.1 a).1.symm.trans e) (fun a=>hj a.symm)
  ·rfl
 have valO:E.owner=i→(E.lose i x).data=V:=by
  intro e
  rw [f7]
  split
  ·rename_i a;exact (hok.1 a).2
  ·rename_i a;exact hok.2 (by simpa using a) e
 have ans:Xaf x.kind=true:=decide_eq_true (by rcases hkk with a|a<;>omega)
 refine ⟨rfl,hb,hw,ans,?_,?_,?_,f1.trans hh,?_,by rw [f2];exact (g.b1 hb).1,by rw [f3];exact ⟨(g.b1 hb).2.1,h.who hb⟩,?_,?_,?_,?_,?_,?_,?_⟩
 ·rw [f5];have:=g.lo;split<;>omega
 ·rw [f5];have:=h.own;split<;>omega
 ·intro a j
  rw [f5] at a
  split at a
  ·omega
  ·rename_i e
   by_cases hj:j=i
   ·subst hj
    rw [shi]
    cases k:x.kept with
    | false=>rfl
    | true=>exact absurd (kO k) e
   ·rw [sh j hj];exact g.ex a j
 ·intro j a
  rw [wa,Bool.and_eq_true] at a
  have hj:j≠i:=fun e=>by rw [e] at a;simp at a
  have hr:=ZaV a.1
  rcases g.st j a.1 with b|b
  ·exact .inl (by rw [sh j hj];exact b)
  ·exact .inr ((oj j hr.1 hj).2 b)
 ·intro j a
  by_cases hj:j=i
  ·omega
  ·rw [sh j hj] at a;exact h.shr j a
 ·intro a j b
  rw [f2] at a
  rw [wa,Bool.and_eq_true] at b
  have hj:j≠i:=fun e=>by rw [e] at b;simp at b
  exact (oj j (ZaV b.1).1 hj).2 (h.w14 a j b.1)
 ·intro a b
  rw [f2] at a
  rw [f5] at b ⊢
  split at b
  ·omega
  ·rename_i e
   rw [if_neg e,wa,ho1 a b,decide_eq_false (fun c=>e c.symm)];rfl
 ·intro a j b
  rw [f2] at a
  rw [f3]
  by_cases hj:j=i
  ·subst hj
   rcases b with b|b
   ·exact absurd b.2 oi
   ·rw [shi] at b
    rcases hkk with c|c
    ·rw [c.2.1] at b;cases b
    ·omega
  ·have:j=E.who∨Zt E.wait j=true:=h.h2 a j (by
    rcases b with b|b
    ·exact .inl ⟨b.1,(oj j b.1 hj).1 b.2⟩
    ·exact .inr (by rw [←sh j hj];exact b))
   rcases this with c|c
   ·exact .inl c
   ·exact .inr (by rw [wa,c,decide_eq_false (fun e=>hj e.symm)];rfl)
 ·intro a
  by_cases e:E.owner=i
  ·exact valO e
  ·rw [f5,if_neg e] at a
   rw [f7,if_neg (fun b=>e (hok.1 b).1)]
   exact h.val a hh
 ·intro a
  rw [f8] at a
  rw [f7]
  split at a
  ·cases a
  ·rename_i b
   rw [if_neg b];exact h.cln hh a
 ·intro j hj hjn
  by_cases e:j=i
  ·subst e
   show CV (E.lose j x) V j (s j) (d j) (U j) (Dn j) (if j=j then [] else An j)
   rw [if_pos rfl,hDi]
   have w':Zt (E.lose j x).wait j=false:=by rw [wa];simp
   have nm': ¬Xb0 (E.lose j x) j:=fun a=>hnm ⟨by rw [←f2];exact a.1,by rw [←f3];exact a.2⟩
   have kept:x.kept=true→isS (E.lose j x) j:=fun a=>⟨oi,by rw [shi];exact a⟩
   have gone:x.kept=false→isN (E.lose j x) j:=fun a=>⟨oi,by rw [shi];exact a⟩
   have k6:x.kind=6→x.kept=false:=fun a=>by
    rcases hkk with b|b
    ·exact b.2.1
    ·omega
   generalize s j=sj at hack ⊢
   generalize d j=dj at hack ⊢
   generalize U j=uj at hack ⊢
   cases hack with
   | i0 a=>exact .rest w' (.r0 (gone (k6 a)) nm')
   | i4 a b=>exact .rest w' (.b1 (gone (k6 a)) nm' b)
   | i5 a b=>exact .rest w' (.c1 (gone (k6 a)) nm' b)
   | i8 a b=>exact .rest w' (.e8 (gone (k6 a)) nm' b)
   | k1 a b=>exact .rest w' (.r1 (kept b) nm')
   | k6 a b c=>exact .rest w' (.d1 (kept b) nm' c)
   | k7 a b c e=>exact .rest w' (.e7s (kept b) nm' c e)
   | k8 a b c=>exact .rest w' (.e8 (gone b) nm' c)
  ·show CV (E.lose i x) V j (s j) (d j) (U j) (Dn j) (if j=i then [] else An j)
   rw [if_neg e]
   exact QbN (hv j hj hjn) (oj j hj e) (sh j e) (by rw [wa,decide_eq_false (fun a=>e a.symm)];simp) (dat j e) f2 f3
end
end Go.Proofs.YtmchcjaomcdbmaaGreat.Gen
namespace Go.Proofs.YtmchcjaomcdbmaaGreat.Gen
open Go Go.Proofs.YtmchcjaomcdbmaaGreat.Abs Go.RowKit
section
variable {E:Ent} {V M:Ln} {n i:Int} {x:Ms} {s:Int→Int} {d:Int→Ln} {U Dn An:Int→List Ms} {U':List Ms}
structure Zcn (n:Int) (E':Ent) (out:List Snd) (V M:Ln) (s:Int→Int) (d:Int→Ln) (U Dn An:Int→List Ms):Prop where
 ei:EI n E' V M
 cv: ∀j,0≤j→j<n→CV E' V j (s j) (d j) (U j) (Dn j++Qu j out) (An j)
theorem JeZ (h:Zgg n E V M s d U Dn An) (h8:n≤8) (hb:E.busy=4∨E.busy=5∨ ∃j,Zt E.wait j=true):EI n E V M:=by
 have hb0:E.busy≠0:=by have:=h.busy;omega
 refine ⟨goodE_iff.2 ⟨h.lo,?_,h.ex,?_,h.st,fun a=>absurd a hb0,fun _=>⟨h.busy,h.who.1,by have:=h.who.2;omega⟩,?_⟩,h.own,h.shr,fun _=>h.who.2,h.w14,h.h2,fun a _=>h.val a,?_,fun _=>h.cln⟩
 ·have:=h.own;omega
 ·intro a;rw [h.here] at a;cases a
 ·intro a
  rcases hb with b|b|b
  ·omega
  ·omega
  ·exact b
 ·intro a;rw [h.here] at a;cases a
theorem Jcq (h:Zgg n E V M s d U Dn An) (hw: ∀j,Zt E.wait j=false) {j:Int} (hj:0≤j) (hjn:j<n):An j=[]∧Base E V j (s j) (d j) (U j) (Dn j):=by
 have hc:=h.cv j hj hjn
 have w:=hw j
 generalize An j=a at hc ⊢
 generalize s j=sj at hc ⊢
 generalize d j=dj at hc ⊢
 generalize U j=uj at hc ⊢
 generalize Dn j=nj at hc ⊢
 cases hc with
 | rest w b=>exact ⟨rfl,b⟩
 | asked w'=>rw [w] at w';cases w'
 | acked w'=>rw [w] at w';cases w'
theorem Xfb (h:Zgg n E V M s d U Dn An) (h8:n≤8):EI n { E with busy:=0,who:=0,wait:=0#8 } V M:=by
 refine ⟨goodE_iff.2 ⟨h.lo,?_,h.ex,?_,fun j a=> ?_,fun _=>⟨rfl,fun j=>XD j⟩,fun a=>absurd rfl a,fun a=> ?_⟩,h.own,h.shr,fun a=>absurd rfl a,fun a=> ?_,fun a=> ?_,fun a _=>h.val a,?_,fun _=>h.cln⟩
 ·have:=h.own;show E.owner<8;omega
 ·intro a;have q:=h.here;rw [show E.here=false from a] at q;cases q
 ·have a:Zt 0#8 j=true:=a
  rw [XD] at a;cases a
 ·have a:(0:Int)=1∨(0:Int)=2:=a
  omega
 ·have a:(0:Int)=1∨(0:Int)=4:=a
  omega
 ·have a:(0:Int)=2:=a
  omega
 ·intro a;have q:=h.here;rw [show E.here=false from a] at q;cases q
theorem Qe0 (h:Zgg n E V M s d U Dn An) (hw: ∀j,Zt E.wait j=false) {j:Int} (hj:0≤j) (hjn:j<n) (hne:j≠E.who):CV { E with busy:=0,who:=0,wait:=0#8 } V j (s j) (d j) (U j) (Dn j) (An j):=by
 obtain ⟨e,hB⟩:=Jcq h hw hj hjn
 rw [e]
 refine .rest (XD j) (ZaB hB Iff.rfl rfl (fun _=>rfl) (fun _ a=> ?_) (fun _ a=>absurd a.symm hne) (fun _ a=>absurd a.symm hne))
 have:=a.1
 have this:(0:Int)=1∨(0:Int)=2:=this
 omega
theorem QcL (h:EI n E V M) (h8:n≤8) (h0:0≤i) (hi:i<n) (hg:Xy x=true) (hv:QaO n E V s d U Dn An) {r:List Ms} (hx:An i=x::r):
  r=[]∧(Ji E i x).2.2=0∧Zcn n (Ji E i x).1 (Ji E i x).2.1 V M s d U Dn (fun j=>if j=i then [] else An j):=by
 obtain ⟨hr,hb,hw,ha,L⟩:=XeM h h8 h0 hi hv hx
 refine ⟨hr,?_⟩
 have hc:Jbb i=true:=decide_eq_true ⟨h0,by omega⟩
 have no1: ¬(ZbC E=false∨Jbb i=false∨Xy x=false∨Xaf x.kind=false):=by rw [h.good,hc,hg,ha];simp
 have no2: ¬(E.busy=0∨Zt E.wait i=false):=by rw [hw];simpa using hb
 have nil: ∀(E':Ent),EI n E' V M→QaO n E' V s d U Dn (fun j=>if j=i then [] else An j)→Zcn n E' [] V M s d U Dn (fun j=>if j=i then [] else An j):=fun E' a b=>
  ⟨a,fun j hj hjn=>by rw [show Qu j ([]:List Snd)=[] from rfl,List.append_nil];exact b j hj hjn⟩
 by_cases hz:nz (E.lose i x).wait=true
 ·have e:Ji E i x=(E.lose i x,[],0):=by unfold Ji;rw [if_neg no1,if_neg no2,if_pos hz]
  rw [e]
  exact ⟨rfl,nil _ (JeZ L h8 (.inr (.inr (nz_has.1 hz)))) L.cv⟩
 have e:Ji E i x=((Mov.goes ⟨E.lose i x,x.line,[]⟩).e,(Mov.goes ⟨E.lose i x,x.line,[]⟩).out,0):=by unfold Ji;rw [if_neg no1,if_neg no2,if_neg hz]
 rw [e]
 refine ⟨rfl,?_⟩
 have hw0:=nz_no.1 (by simpa using hz)
 generalize E.lose i x=F at L hw0
 generalize (fun j=>if j=i then [] else An j)=An' at L nil ⊢
 unfold Mov.goes
 by_cases h1:F.busy=1
 ·rw [if_pos h1]
  have ho:F.owner= -1:=by
   have:=L.lo
   by_cases h:0≤F.owner
   ·have:=L.o1 h1 h;rw [hw0] at this;cases this
   ·omega
  have eo:=Xfb L h8
  have ew:=L.who
  refine (show Zcn n { ({ F with busy:=0,who:=0,wait:=0#8 }:Ent) with share:=F.share ||| Q8 F.who } [⟨F.who,⟨8,x.line,false,false,F.data⟩⟩] V M s d U Dn An' from ?_)
  refine ⟨Je0 eo h8 rfl L.here ew.1 ew.2 ho,fun j hj hjn=> ?_⟩
  rw [Q9]
  by_cases e:j=F.who
  ·subst e
   rw [if_pos rfl]
   obtain ⟨e,hB⟩:=Jcq L hw0 hj hjn
   rw [e]
   have hme:Xb0 F F.who:=⟨.inl h1,rfl⟩
   generalize s F.who=sj at hB ⊢
   generalize d F.who=dj at hB ⊢
   generalize U F.who=uj at hB ⊢
   generalize Dn F.who=nj at hB ⊢
   cases hB with
   | b2 a c e'=>
    refine .rest (XD _) (.b3s ⟨a.1,?_⟩ (Jcb rfl _) rfl (L.val ho))
    show Zt (F.share ||| Q8 F.who) F.who=true
    rw [Qb0,JZ,decide_eq_true ⟨rfl,ew.1,by omega⟩,Bool.or_true]
   | c2 a c e'=>omega
   | d2 a c e'=>omega
   | r0 a c=>exact absurd hme c
   | r1 a c=>exact absurd hme c
   | r2 a c=>exact absurd hme c
   | r3 a c=>exact absurd hme c
   | b1 a c=>exact absurd hme c
   | b3s a c=>exact absurd hme c
   | b3e a c=>exact absurd hme c
   | c1 a c=>exact absurd hme c
   | c3 a c=>exact absurd hme c
   | d1 a c=>exact absurd hme c
   | d3 a c=>exact absurd hme c
   | e7s a c=>exact absurd hme c
   | e7o a c=>exact absurd hme c
   | e9 a c=>exact absurd hme c
   | e8 a c=>exact absurd hme c
   | p a c=>exact absurd hme c
  ·rw [if_neg (fun a=>e a.symm),List.append_nil]
   exact JeT (E:={ F with busy:=0,who:=0,wait:=0#8 }) e (Qe0 L hw0 hj hjn e)
 rw [if_neg h1]
 by_cases h2:F.busy=2
 ·rw [if_pos h2]
  have ew:=L.who
  obtain ⟨ea,hB⟩:=Jcq L hw0 ew.1 ew.2
  have hme:Xb0 F F.who:=⟨.inr h2,rfl⟩
  have hown:F.owner≠F.who∧Dn F.who=[]∧((s F.who=5∧U F.who=[])∨(s F.who=6∧U F.who=[]∧d F.who=V)):=by
   generalize s F.who=sj at hB ⊢
   generalize d F.who=dj at hB ⊢
   generalize U F.who=uj at hB ⊢
   generalize Dn F.who=nj at hB ⊢
   cases hB with
   | b2 a c e'=>omega
   | c2 a c e'=>exact ⟨a.1,rfl,.inl ⟨rfl,rfl⟩⟩
   | d2 a c e'=>exact ⟨a.1,rfl,.inr ⟨rfl,rfl,rfl⟩⟩
   | r0 a c=>exact absurd hme c
   | r1 a c=>exact absurd hme c
   | r2 a c=>exact absurd hme c
   | r3 a c=>exact absurd hme c
   | b1 a c=>exact absurd hme c
   | b3s a c=>exact absurd hme c
   | b3e a c=>exact absurd hme c
   | c1 a c=>exact absurd hme c
   | c3 a c=>exact absurd hme c
   | d1 a c=>exact absurd hme c
   | d3 a c=>exact absurd hme c
   | e7s a c=>exact absurd hme c
   | e7o a c=>exact absurd hme c
   | e9 a c=>exact absurd hme c
   | e8 a c=>exact absurd hme c
   | p a c=>exact absurd hme c
  have ho:F.owner= -1:=by
   have:=L.lo
   by_cases h:0≤F.owner
   ·rcases L.h2 h2 F.owner (.inl ⟨h,rfl⟩) with a|a
    ·exact absurd a hown.1
    ·rw [hw0] at a;cases a
   ·omega
  have hsh: ∀j,j≠F.who→Zt F.share j=false:=fun j hj=>by
   cases e:Zt F.share j with
   | false=>rfl
   | true=>
    rcases L.h2 h2 j (.inr e) with a|a
    ·exact absurd a hj
    ·rw [hw0] at a;cases a
  have eo:=Xfb L h8
  refine (show Zcn n { ({ F with busy:=0,who:=0,wait:=0#8 }:Ent) with owner:=F.who,share:=0#8 } [⟨F.who,⟨10,x.line,false,false,F.data⟩⟩] V M s d U Dn An' from ?_)
  refine ⟨Ze6 eo h8 rfl L.here ew.1 ew.2,fun j hj hjn=> ?_⟩
  rw [Q9]
  by_cases e:j=F.who
  ·subst e
   rw [if_pos rfl,ea,hown.2.1]
   rcases hown.2.2 with ⟨a,b⟩|⟨a,b,c⟩
   ·rw [a,b];exact .rest (XD _) (.c3 rfl (Jcb rfl _) rfl (L.val ho) (L.val ho))
   ·rw [a,b,c];exact .rest (XD _) (.d3 rfl (Jcb rfl _) rfl (L.val ho) (L.val ho))
  ·rw [if_neg (fun a=>e a.symm),List.append_nil]
   exact Je9 (E:={ F with busy:=0,who:=0,wait:=0#8 }) rfl hj e ho (hsh j e) (Qe0 L hw0 hj hjn e)
 ·rw [if_neg h2]
  have:=L.busy
  refine nil _ (JeZ L h8 ?_) L.cv
  rcases this with a|a|a|a
  ·exact absurd a h1
  ·exact absurd a h2
  ·exact .inl a
  ·exact .inr (.inl a)
theorem ZcD (h:EI n E V M) (hr:Qaa E=true) (hv:QaO n E V s d U Dn An) {M':Ln} (hM:if E.dirty=true then M'=E.data else M'=M):
  (Zj E).2.2=0∧EI n (Zj E).1 V M'∧QaO n (Zj E).1 V s d U Dn An∧ ∃y:Ms,(Zj E).2.1=[⟨E.who,y⟩]∧y.kind=14:=by
 have g:=QaU h
 unfold Qaa at hr
 rw [Bool.and_eq_true,Bool.and_eq_true] at hr
 obtain ⟨⟨_,hb⟩,hw⟩:=hr
 have hb:=of_decide_eq_true hb
 have hw:=nz_no.1 (by simpa using hw)
 have hh:E.here=true:=by
  cases e:E.here with
  | true=>rfl
  | false=>have:=(g.nh e).2.2.2.1;omega
 have e:Zj E=({ E with dirty:=false,busy:=0,who:=0,wait:=0#8 },[⟨E.who,⟨14,0,false,false,zeroL⟩⟩],0):=by
  unfold Zj
  rw [if_neg (by unfold Qaa;rw [h.good,decide_eq_true hb,nz_no.2 hw];decide)]
  rfl
 rw [e]
 refine ⟨rfl,⟨goodE_iff.2 ⟨g.lo,g.hi,g.ex,fun a=>(by rw [show E.here=false from a] at hh;cases hh),fun j a=>(by have a:Zt 0#8 j=true:=a;rw [XD] at a;cases a),fun _=>⟨rfl,fun j=>XD j⟩,fun a=>absurd rfl a,fun a=>(by have a:(0:Int)=1∨(0:Int)=2:=a;omega)⟩,h.own,h.shr,fun a=>absurd rfl a,fun a=>(by have a:(0:Int)=1∨(0:Int)=4:=a;omega),fun a=>(by have a:(0:Int)=2:=a;omega),h.val,fun a=>(by rw [show E.here=false from a] at hh;cases hh),fun _ _=> ?_⟩,fun j hj hjn=> ?_,_,rfl,rfl⟩
 ·by_cases hd:E.dirty=true
  ·rw [if_pos hd] at hM;exact hM.symm
  ·rw [if_neg hd] at hM;rw [hM];exact h.cln hh (by simpa using hd)
 ·have hc:=hv j hj hjn
  have w:=hw j
  generalize An j=a at hc ⊢
  generalize s j=sj at hc ⊢
  generalize d j=dj at hc ⊢
  generalize U j=uj at hc ⊢
  generalize Dn j=nj at hc ⊢
  cases hc with
  | rest w b=>
   refine .rest (XD j) (ZaB b Iff.rfl rfl (fun _=>rfl) (fun _ a=> ?_) (fun a=>by omega) (fun a=>by omega))
   have a:(0:Int)=1∨(0:Int)=2:=a.1
   omega
  | asked w'=>rw [w] at w';cases w'
  | acked w'=>rw [w] at w';cases w'
theorem ZeX (h:EI n E V M) (hh:E.here=true) (ho:E.owner<0) (hs:nz E.share=false) (hb:E.busy=0) (hv:QaO n E V s d U Dn An) {M':Ln} (hM:if E.dirty=true then M'=E.data else M'=M):
  EI n emptyEnt V M'∧QaO n emptyEnt V s d U Dn An:=by
 have g:=QaU h
 have hlo:=g.lo
 have hsh:=nz_no.1 hs
 have hM':M'=V:=by
  by_cases hd:E.dirty=true
  ·rw [if_pos hd] at hM;rw [hM];exact h.val (by omega) hh
  ·rw [if_neg hd] at hM;rw [hM,←h.cln hh (by simpa using hd)];exact h.val (by omega) hh
 refine ⟨⟨by decide +kernel,?_,fun j a=>(by rw [show emptyEnt.share=0#8 from rfl,XD] at a;cases a),fun a=>absurd rfl a,fun a=> ?_,fun a=> ?_,fun _ a=>(by cases a),fun _=>hM',fun a=>(by cases a)⟩,fun j hj hjn=> ?_⟩
 ·have:=h.own;show (-1:Int)<n;omega
 ·have a:(0:Int)=1∨(0:Int)=4:=a
  omega
 ·have a:(0:Int)=2:=a
  omega
 ·obtain ⟨e,hB,hw⟩:=Xah (hv j hj hjn) hb
  rw [e]
  refine .rest (XD j) (ZaB hB ⟨fun a=> ?_,fun a=>by omega⟩ ?_ (fun a=>by omega) (fun _ a=> ?_) (fun a=>by omega) (fun a=>by omega))
  ·have a:(-1:Int)=j:=a
   omega
  ·rw [hsh j];exact XD j
  ·have a:(0:Int)=1∨(0:Int)=2:=a.1
   omega
theorem Qcr (h:EI n E V M) (hh:E.here=false) (hv:QaO n E V s d U Dn An):EI n { E with data:=M,here:=true } V M∧QaO n { E with data:=M,here:=true } V s d U Dn An:=by
 have g:=QaU h
 obtain ⟨a1,a2,a3,a4,a5⟩:=g.nh hh
 refine ⟨⟨goodE_iff.2 ⟨g.lo,g.hi,g.ex,fun a=>(by cases a),g.st,g.b0,g.b1,g.b2⟩,h.own,h.shr,h.who,h.w14,h.h2,fun _ _=>h.mem hh,fun a=>(by cases a),fun _ _=>rfl⟩,fun j hj hjn=> ?_⟩
 exact QbN (hv j hj hjn) Iff.rfl rfl rfl (fun a=>by omega) rfl rfl
end
end Go.Proofs.YtmchcjaomcdbmaaGreat.Gen
namespace Go.Proofs.YtmchcjaomcdbmaaGreat.Gen
open Go Go.Proofs.YtmchcjaomcdbmaaGreat.Abs Go.RowKit
def Sys.nodeD (S:Sys) (j:Int):Nd:=(S.nodes[j.toNat]?).getD ⟨Jd9 1 1,[],[],[]⟩
def Sys.sV (S:Sys) (l:Nat) (j:Int):Int:=((S.nodeD j).A.slot (l:Nat)).state
def Sys.dV (S:Sys) (l:Nat) (j:Int):Ln:=((S.nodeD j).A.slot (l:Nat)).data
def Sys.uV (S:Sys) (l:Nat) (j:Int):List Ms:=upV (l:Nat) (S.nodeD j).up
def Sys.nV (S:Sys) (l:Nat) (j:Int):List Ms:=dnV (l:Nat) (S.nodeD j).dn
def Sys.aV (S:Sys) (l:Nat) (j:Int):List Ms:=anV (l:Nat) (S.nodeD j).ans
structure Jfy (S:Sys) (l:Nat) (E:Ent) (V:Ln):Prop where
 ei:EI S.c.cores E V (QT S.q S.D (l:Nat))
 cv:QaO S.c.cores E V (S.sV l) (S.dV l) (S.uV l) (S.nV l) (S.aV l)
structure QuI (k:Nat) (N:Nd):Prop where
 lens:N.up.length≤k∧N.ans.length≤k∧N.dn.length≤k
 up: ∀m∈N.up,Xy m=true∧Qb6 m.kind=true
 ans: ∀m∈N.ans,Xy m=true∧Xaf m.kind=true
 dn: ∀m∈N.dn,Xy m=true∧JaV m.kind=true
structure Sys.pr (S:Sys) (q k:Nat) (Vs:Nat→Ln):Prop where
 wf:S.wf k
 qu: ∀(i:Nat) N,S.nodes[i]? =some N→QuI q N
 line: ∀(l:Nat) E,S.dir[l]? =some E→Jfy S l E (Vs l)
section
variable {S:Sys} {q k:Nat} {Vs:Nat→Ln}
theorem QuI.le {q':Nat} {N:Nd} (h:QuI q N) (hk:q≤q'):QuI q' N:=⟨⟨by have:=h.lens.1;omega,by have:=h.lens.2.1;omega,by have:=h.lens.2.2;omega⟩,h.up,h.ans,h.dn⟩
theorem Sys.pr.le {q' k':Nat} (h:S.pr q k Vs) (hq:q≤q') (hk:k≤k'):S.pr q' k' Vs:=⟨h.wf.le hk,fun i N e=>(h.qu i N e).le hq,h.line⟩
theorem Xal {i:Nat} {N:Nd} (h:S.nodes[i]? =some N):S.nodeD (i:Nat)=N:=by
 unfold Sys.nodeD;rw [Int.toNat_natCast,h];rfl
theorem Sys.wf.node (h:S.wf k) {j:Int} (h0:0≤j) (hj:j<S.c.cores):S.nodes[j.toNat]? =some (S.nodeD j):=by
 have hl:=h.nodes
 have hlt:j.toNat<S.nodes.length:=by rw [hl];omega
 unfold Sys.nodeD
 rw [List.getElem?_eq_getElem hlt];rfl
theorem XbU {i:Nat} {N:Nd} (hi:i<S.nodes.length) (j:Int) (h0:0≤j):(S.setN i N).nodeD j=if j=(i:Nat) then N else S.nodeD j:=by
 unfold Sys.nodeD Sys.setN
 by_cases e:j=(i:Nat)
 ·subst e
  rw [if_pos rfl,Int.toNat_natCast,List.getElem?_set_self hi];rfl
 ·rw [if_neg e,List.getElem?_set_ne (by omega)]
theorem Xcp (h:S.wf k):S.c.cores≤8:=h.c.cores.2
theorem ZbW {i:Nat} {N N':Nd} {l:Nat} {E:Ent} {V:Ln} (hN:S.nodes[i]? =some N) (h:Jfy S l E V)
  (hc:(i:Int)<S.c.cores→CV E V (i:Nat) (N.A.slot (l:Nat)).state (N.A.slot (l:Nat)).data (upV (l:Nat) N.up) (dnV (l:Nat) N.dn) (anV (l:Nat) N.ans)→CV E V (i:Nat) (N'.A.slot (l:Nat)).state (N'.A.slot (l:Nat)).data (upV (l:Nat) N'.up) (dnV (l:Nat) N'.dn) (anV (l:Nat) N'.ans)):
  Jfy (S.setN i N') l E V:=by
 refine ⟨h.ei,fun j h0 hj=> ?_⟩
 have hj':j<S.c.cores:=hj
 have ho:=h.cv j h0 hj'
 unfold Sys.sV Sys.dV Sys.uV Sys.nV Sys.aV at ho ⊢
 rw [XbU (Qd hN) j h0]
 by_cases e:j=(i:Nat)
 ·subst e
  rw [if_pos rfl]
  rw [Xal hN] at ho
  exact hc hj' ho
 ·rw [if_neg e];exact ho
theorem Xcn (l:Int) (q:List Ms) (m:Ms):upV l (q++[m])=upV l q++if m.line=l∧m.kind≤3 then [m] else []:=by
 unfold upV
 rw [List.filter_append]
 congr 1
 by_cases h:m.line=l∧m.kind≤3
 ·rw [if_pos h,List.filter_cons,if_pos (by simpa using h)];rfl
 ·rw [if_neg h,List.filter_cons,if_neg (by simpa using h)];rfl
theorem Jcl (l:Int) (q:List Ms) (m:Ms):upV l (m::q)=if m.line=l∧m.kind≤3 then m::upV l q else upV l q:=by
 unfold upV
 rw [List.filter_cons]
 by_cases h:m.line=l∧m.kind≤3
 ·rw [if_pos h,if_pos (by simpa using h)]
 ·rw [if_neg h,if_neg (by simpa using h)]
theorem Jbo (l:Int) (q:List Ms) (m:Ms):dnV l (m::q)=if m.line=l∧m.kind≠14 then m::dnV l q else dnV l q:=by
 unfold dnV
 rw [List.filter_cons]
 by_cases h:m.line=l∧m.kind≠14
 ·rw [if_pos h,if_pos (by simpa using h)]
 ·rw [if_neg h,if_neg (by simpa using h)]
theorem Xdk (l:Int) (q:List Ms) (m:Ms):anV l (m::q)=if m.line=l then m::anV l q else anV l q:=by
 unfold anV
 rw [List.filter_cons]
 by_cases h:m.line=l
 ·rw [if_pos h,if_pos (by simpa using h)]
 ·rw [if_neg h,if_neg (by simpa using h)]
theorem Zay {q:List Ms} {m:Ms} (hg:Xy m=true) (hl:q.length<1000):Qab q m=(q++[m],0):=by
 unfold Qab
 rw [if_neg (by rw [hg];decide),if_neg (by omega)]
theorem QuI.pushUp {N:Nd} {m:Ms} (h:QuI q N) (hk:q<1000) (hg:Xy m=true) (ha:Qb6 m.kind=true) (A':Arr):(Qab N.up m).1=N.up++[m]∧QuI (q+1) { N with A:=A',up:=N.up++[m] }:=by
 have:=h.lens
 refine ⟨by rw [Zay hg (by omega)],⟨by simp;omega,by simp;omega,by simp;omega⟩,fun x hx=> ?_,h.ans,h.dn⟩
 rcases List.mem_append.1 hx with hx|hx
 ·exact h.up x hx
 ·rcases List.mem_singleton.1 hx with rfl;exact ⟨hg,ha⟩
end
end Go.Proofs.YtmchcjaomcdbmaaGreat.Gen
namespace Go.Proofs.YtmchcjaomcdbmaaGreat.Gen
open Go Go.Proofs.YtmchcjaomcdbmaaGreat.Abs Go.RowKit
section
variable {S:Sys} {q k:Nat} {Vs:Nat→Ln}
theorem Zbq {kind line:Int} (hk:1≤kind∧kind≤5) (hl:0≤line∧line<64):Xy ⟨kind,line,false,false,zeroL⟩=true:=by
 unfold Xy
 simp only [Bool.not_false,Bool.true_or,Bool.and_true,Bool.false_or]
 rw [decide_eq_true (show 1≤kind∧kind≤14∧0≤line∧line<64 by omega)]
 simp
theorem JfL {line:Int} {d:Ln} (hl:0≤line∧line<64):Xy ⟨3,line,true,false,d⟩=true:=by
 unfold Xy
 rw [decide_eq_true (show 1≤(3:Int)∧(3:Int)≤14∧0≤line∧line<64 by omega)]
 simp
theorem Xb2 {E:Ent} {V:Ln} {i:Int} {s t:St} {U Dn An:List Ms} (h:like s t) (c:CV E V i t.state t.data U Dn An):CV E V i s.state s.data U Dn An:=by rw [h.1,h.2];exact c
theorem Qfo (h:S.pr q k Vs) (hq9:q<900) (hk:k<100000) {i:Nat} {N:Nd} (hN:S.nodes[i]? =some N) {A':Arr} {ms:List Ms} (hs:JbN N.A A' ms) (hm:MsL S.c.lines ms) (hw:(S.setN i { N with A:=A',up:=Xg N.up ms }).wf (k+1)):
  (S.setN i { N with A:=A',up:=Xg N.up ms }).pr (q+1) (k+1) Vs:=by
 have hq:=h.qu i N hN
 have hlines:=h.wf.c.lines
 have fin: ∀(N':Nd),{ N with A:=A',up:=Xg N.up ms }=N'→QuI (q+1) N'→(∀(l:Nat) E,S.dir[l]? =some E→CV E (Vs l) (i:Nat) (N.A.slot (l:Nat)).state (N.A.slot (l:Nat)).data (upV (l:Nat) N.up) (dnV (l:Nat) N.dn) (anV (l:Nat) N.ans)→CV E (Vs l) (i:Nat) (N'.A.slot (l:Nat)).state (N'.A.slot (l:Nat)).data (upV (l:Nat) N'.up) (dnV (l:Nat) N'.dn) (anV (l:Nat) N'.ans))→(S.setN i N').pr (q+1) (k+1) Vs:=by
  intro N' e hq' hc
  refine ⟨by rw [←e];exact hw,fun j M hM=> ?_,fun l E hE=>ZbW hN (h.line l E hE) (fun _ c=>hc l E hE c)⟩
  by_cases hj:i=j
  ·subst hj
   rw [Xt hN] at hM;cases hM;exact hq'
  ·simp only [Sys.setN,List.getElem?_set_ne hj] at hM
   exact (h.qu j M hM).le (by omega)
 have one: ∀{m:Ms},Xy m=true→Qb6 m.kind=true→ms=[m]→Xg N.up ms=N.up++[m]∧QuI (q+1) { N with A:=A',up:=N.up++[m] }:=by
  intro m hg ha e
  obtain ⟨a,b⟩:=hq.pushUp (by omega) hg ha A'
  refine ⟨?_,b⟩
  rw [e];exact a
 cases hs with
 | same hl=>
  refine fin _ rfl ⟨⟨by have:=hq.lens.1;show N.up.length≤q+1;omega,by have:=hq.lens.2.1;show N.ans.length≤q+1;omega,by have:=hq.lens.2.2;show N.dn.length≤q+1;omega⟩,hq.up,hq.ans,hq.dn⟩ (fun l E hE c=> ?_)
  exact Xb2 (hl l) c
 | ask0 hk2 h0 h1 h2=>
  rename_i line kind st
  have hl:=hm _ (List.mem_singleton.2 rfl)
  obtain ⟨e1,e2⟩:=one (Zbq (by omega) ⟨hl.1,by have:line<S.c.lines:=hl.2;omega⟩) (decide_eq_true (by show 1≤kind∧kind≤5;omega)) rfl
  rw [e1]
  refine fin _ (by rw [e1]) e2 (fun l E hE c=> ?_)
  show CV E (Vs l) (i:Nat) (A'.slot (l:Nat)).state (A'.slot (l:Nat)).data (upV (l:Nat) (N.up++[_])) _ _
  rw [Xcn]
  by_cases e:line=(l:Nat)
  ·rw [if_pos ⟨e,by show kind≤3;omega⟩,←e,h1]
   rw [←e] at c
   exact Xf2 c h0 hk2
  ·rw [if_neg (fun a=>e a.1),List.append_nil]
   exact Xb2 (h2 _ (fun a=>e a.symm)) c
 | ask1 h0 h1 h2 h3=>
  rename_i line
  have hl:=hm _ (List.mem_singleton.2 rfl)
  obtain ⟨e1,e2⟩:=one (Zbq (by omega) ⟨hl.1,by have:line<S.c.lines:=hl.2;omega⟩) rfl rfl
  rw [e1]
  refine fin _ (by rw [e1]) e2 (fun l E hE c=> ?_)
  show CV E (Vs l) (i:Nat) (A'.slot (l:Nat)).state (A'.slot (l:Nat)).data (upV (l:Nat) (N.up++[_])) _ _
  rw [Xcn]
  by_cases e:line=(l:Nat)
  ·rw [if_pos ⟨e,by show (2:Int)≤3;omega⟩,←e,h1,h2]
   rw [←e,h0] at c
   exact Jge c rfl
  ·rw [if_neg (fun a=>e a.1),List.append_nil]
   exact Xb2 (h3 _ (fun a=>e a.symm)) c
 | outc h0 h1 h3=>
  rename_i line
  have hl:=hm _ (List.mem_singleton.2 rfl)
  obtain ⟨e1,e2⟩:=one (Zbq (by omega) ⟨hl.1,by have:line<S.c.lines:=hl.2;omega⟩) rfl rfl
  rw [e1]
  refine fin _ (by rw [e1]) e2 (fun l E hE c=> ?_)
  show CV E (Vs l) (i:Nat) (A'.slot (l:Nat)).state (A'.slot (l:Nat)).data (upV (l:Nat) (N.up++[_])) _ _
  rw [Xcn]
  by_cases e:line=(l:Nat)
  ·rw [if_pos ⟨e,by show (3:Int)≤3;omega⟩,←e,h1]
   rw [←e] at c
   exact Jgd c h0 rfl rfl
  ·rw [if_neg (fun a=>e a.1),List.append_nil]
   exact Xb2 (h3 _ (fun a=>e a.symm)) c
 | outd h0 h1 h2 h3=>
  rename_i line
  have hl:=hm _ (List.mem_singleton.2 rfl)
  obtain ⟨e1,e2⟩:=one (JfL (d:=(N.A.slot line).data) ⟨hl.1,by have:line<S.c.lines:=hl.2;omega⟩) rfl rfl
  rw [e1]
  refine fin _ (by rw [e1]) e2 (fun l E hE c=> ?_)
  show CV E (Vs l) (i:Nat) (A'.slot (l:Nat)).state (A'.slot (l:Nat)).data (upV (l:Nat) (N.up++[_])) _ _
  rw [Xcn]
  by_cases e:line=(l:Nat)
  ·rw [if_pos ⟨e,by show (3:Int)≤3;omega⟩,←e,h1,h2]
   rw [←e,h0] at c
   exact XfW c rfl rfl rfl
  ·rw [if_neg (fun a=>e a.1),List.append_nil]
   exact Xb2 (h3 _ (fun a=>e a.symm)) c
theorem Qe6 (h:S.pr q k Vs) (hq9:q<900) (hk:k<100000) (core line word:Int):(S.load core line word).1.pr (q+1) (k+1) Vs:=by
 have hw:=h.wf.load (by omega) core line word
 unfold Sys.load at hw ⊢
 split at hw
 ·exact h.le (by omega) (by omega)
 ·rename_i i N e
  obtain ⟨_,hN⟩:=Sys.at_some e
  have hn:=h.wf.nd i N hN
  have hu:=hn.gd.used
  split at hw
  ·rename_i hl;rw [if_pos hl];exact h.le (by omega) (by omega)
  ·rename_i hl
   rw [if_neg hl]
   have hl':=(h.wf.line line).1 (by simpa using hl)
   exact Qfo h hq9 hk hN (XeI hn.gd.ok hn.gd.wf (by omega) line word) (hn.lin.load h.wf.pos hl' word).1 hw
theorem Xfu (h:S.pr q k Vs) (hq9:q<900) (hk:k<100000) (core line:Int):(S.evict core line).1.pr (q+1) (k+1) Vs:=by
 have hw:=h.wf.evict (by omega) core line
 unfold Sys.evict at hw ⊢
 split at hw
 ·exact h.le (by omega) (by omega)
 ·rename_i i N e
  obtain ⟨_,hN⟩:=Sys.at_some e
  have hn:=h.wf.nd i N hN
  have hu:=hn.gd.used
  split at hw
  ·rename_i hl;rw [if_pos hl];exact h.le (by omega) (by omega)
  ·rename_i hl
   rw [if_neg hl]
   exact Qfo h hq9 hk hN (XdJ hn.gd.ok hn.gd.wf (by omega) line) (hn.lin.evict h.wf.pos line).1 hw
end
end Go.Proofs.YtmchcjaomcdbmaaGreat.Gen
namespace Go.Proofs.YtmchcjaomcdbmaaGreat.Gen
open Go Go.Proofs.YtmchcjaomcdbmaaGreat.Abs Go.RowKit
section
variable {S:Sys} {q k:Nat} {Vs:Nat→Ln}
def Xfq (Vs:Nat→Ln) (line word v:Int):Nat→Ln:=fun l=>if ((l:Nat):Int)=line then (Vs l).put word.toNat v else Vs l
theorem Qej (h:S.pr q k Vs) (hq9:q<900) (hk:k<100000) (core line word v:Int):(S.store core line word v).1.pr (q+1) (k+1) (if (S.store core line word v).2=true then Xfq Vs line word v else Vs):=by
 have hw:=h.wf.store (by omega) core line word v
 cases ha:S.at core with
 | none=>
  have e:S.store core line word v=(S,false):=by unfold Sys.store;rw [ha]
  rw [e];rw [if_neg Bool.false_ne_true];exact h.le (by omega) (by omega)
 | some p=>
  obtain ⟨i,N⟩:=p
  by_cases hl:S.line line=false
  ·have e:S.store core line word v=(S,false):=by unfold Sys.store;rw [ha];simp only;rw [if_pos hl]
   rw [e];rw [if_neg Bool.false_ne_true];exact h.le (by omega) (by omega)
  have e:S.store core line word v=(S.setN i { N with A:=(N.A.store line word v).2,up:=Xg N.up (N.A.store line word v).1 },N.A.storeHit line word):=by
   unfold Sys.store;rw [ha];simp only;rw [if_neg hl]
  rw [e] at hw ⊢
  obtain ⟨hc,hN⟩:=Sys.at_some ha
  have hn:=h.wf.nd i N hN
  have hu:=hn.gd.used
  have hl':=(h.wf.line line).1 (by simpa using hl)
  cases hh:N.A.storeHit line word with
  | false=>
   rw [if_neg Bool.false_ne_true]
   exact Qfo h hq9 hk hN (XdI hn.gd.ok hn.gd.wf (by omega) hh) (hn.lin.store h.wf.pos hl' word v).1 hw
  | true=>
   rw [if_pos rfl]
   obtain ⟨e1,hst,s1,s2,s3⟩:=Jcs hn.gd.ok hn.gd.wf (by omega) (v:=v) hh
   have ems:(N.A.store line word v).1=[]:=by rw [e1]
   have eN:({ N with A:=(N.A.store line word v).2,up:=Xg N.up (N.A.store line word v).1 }:Nd)={ N with A:=(N.A.store line word v).2 }:=by rw [ems];rfl
   simp only at hw ⊢
   rw [eN] at hw ⊢
   have hq:=h.qu i N hN
   refine ⟨hw,fun j M hM=> ?_,fun l E hE=> ?_⟩
   ·by_cases hj:i=j
    ·subst hj
     rw [Xt hN] at hM;cases hM
     exact ⟨⟨by have:=hq.lens.1;show N.up.length≤q+1;omega,by have:=hq.lens.2.1;show N.ans.length≤q+1;omega,by have:=hq.lens.2.2;show N.dn.length≤q+1;omega⟩,hq.up,hq.ans,hq.dn⟩
    ·simp only [Sys.setN,List.getElem?_set_ne hj] at hM
     exact (h.qu j M hM).le (by omega)
   ·have hL:=h.line l E hE
    have hi:((i:Nat):Int)<S.c.cores:=by have:=Qd hN;have:=h.wf.nodes;omega
    by_cases el:((l:Nat):Int)=line
    ·have eV:Xfq Vs line word v l=(Vs l).put word.toNat v:=by unfold Xfq;rw [if_pos el]
     rw [eV]
     have ci:=hL.cv (i:Nat) (by omega) hi
     unfold Sys.sV Sys.dV Sys.uV Sys.nV Sys.aV at ci
     rw [Xal hN,el] at ci
     obtain ⟨c1,c2,c3⟩:=Jek (V':=(Vs l).put word.toNat v) ci hst
     have g:=QaU hL.ei
     have ho:E.owner=(i:Nat):=c2
     have hsh:=g.ex (by omega)
     refine ⟨⟨hL.ei.good,hL.ei.own,hL.ei.shr,hL.ei.who,hL.ei.w14,hL.ei.h2,fun a=>by omega,fun a=>(by have:=(g.nh a).2.1;omega),hL.ei.cln⟩,fun j h0 hj=> ?_⟩
     have hj':j<S.c.cores:=hj
     have cj:=hL.cv j h0 hj'
     unfold Sys.sV Sys.dV Sys.uV Sys.nV Sys.aV at cj ⊢
     rw [XbU (Qd hN) j h0]
     by_cases ej:j=(i:Nat)
     ·subst ej
      rw [if_pos rfl]
      show CV E _ _ ((N.A.store line word v).2.slot ((l:Nat):Int)).state ((N.A.store line word v).2.slot ((l:Nat):Int)).data _ _ _
      rw [el,s1,s2,c3]
      exact c1
     ·rw [if_neg ej]
      exact Zfs cj ⟨by omega,hsh j⟩
    ·have eV:Xfq Vs line word v l=Vs l:=by unfold Xfq;rw [if_neg el]
     rw [eV]
     exact ZbW hN hL (fun _ c=>Xb2 (s3 _ el) c)
theorem JaA {A:Arr} (hok:A.ok) (hw:A.wf) (hu:A.used<100000) {m:Ms} (hg:Xy m=true) (ht:JaV m.kind=true):
  (m.kind=14→A.hear m=([],A,0))∧(∀t,turn m.kind (A.slot m.line).state=t→0≤t→t≤9→(A.slot m.line).state≠0→
   (A.hear m).1=Jbc m (A.slot m.line) t∧(A.hear m).2.2=0∧(∀l,l≠m.line→(A.hear m).2.1.slot l=A.slot l)∧((A.hear m).2.1.slot m.line).state=t∧(t≠0→((A.hear m).2.1.slot m.line).data=XbJ m (A.slot m.line) t)):=by
 have no: ¬(Xy m=false∨JaV m.kind=false):=by rw [hg,ht];simp
 constructor
 ·intro e
  have t2:turn m.kind (A.slot m.line).state= -2:=by rw [e];unfold turn;rw [if_pos rfl]
  unfold Arr.hear
  rw [if_neg no,if_neg (by omega),if_pos t2]
 ·intro t ht0 h0 h9 hs
  by_cases e:t=0
  ·have eh:A.hear m=(Jbc m (A.slot m.line) 0,A.drop m.line,0):=by
    unfold Arr.hear
    rw [if_neg no,if_neg (by omega),if_neg (by omega),if_pos (by omega)]
   obtain ⟨d1,d2⟩:=Jdm hok hw m.line
   rw [eh,e]
   exact ⟨rfl,rfl,d2,by show ((A.drop m.line).slot m.line).state=0;rw [d1];rfl,fun a=>absurd rfl a⟩
  ·have eh:A.hear m=(Jbc m (A.slot m.line) t,(A.set m.line t (XbJ m (A.slot m.line) t)).2,0):=by
    unfold Arr.hear
    rw [if_neg no,if_neg (by omega),if_neg (by omega),if_neg (by omega),ht0]
   obtain ⟨q,hq⟩:=Qc6 hok hs
   obtain ⟨e1,e2⟩:=Qcn hok hw hu (d:=XbJ m (A.slot m.line) t) (JdV hok hw hs) (show 1≤t by omega) h9 hq
   rw [eh]
   exact ⟨rfl,rfl,e2,by show ((A.set m.line t _).2.slot m.line).state=t;rw [e1],fun _=>by show ((A.set m.line t _).2.slot m.line).data=_;rw [e1]⟩
theorem Qeb {m:Ms} {s:St} {t:Int} (hm:0≤m.line∧m.line<64): ∀y∈Jbc m s t,Xy y=true∧Xaf y.kind=true∧y.line=m.line:=by
 intro y hy
 unfold Jbc at hy
 split at hy
 ·rcases List.mem_singleton.1 hy with rfl
  refine ⟨?_,rfl,rfl⟩
  unfold Xy
  rw [decide_eq_true (show 1≤(6:Int)∧(6:Int)≤14∧0≤m.line∧m.line<64 by omega)]
  cases dr s<;>simp
 ·split at hy
  ·rcases List.mem_singleton.1 hy with rfl
   refine ⟨?_,rfl,rfl⟩
   unfold Xy
   rw [decide_eq_true (show 1≤(7:Int)∧(7:Int)≤14∧0≤m.line∧m.line<64 by omega)]
   cases dr s<;>simp
  ·cases hy
theorem ZeV (h:S.pr q k Vs) (hq9:q<900) (hk:k<100000) (core:Int):(S.hear core).1.pr (q+1) (k+1) Vs∧
  (S.hear core=(S,Xh,1)∨S.hear core=(S,Xh,14)∨ ∃i N m r,S.at core=some (i,N)∧N.dn=m::r∧(S.hear core).2.1=m∧(S.hear core).2.2=0∧(m.kind≠14→((N.A.hear m).2.1.slot m.line).state≠(N.A.slot m.line).state)):=by
 have hw:=h.wf.hear (by omega) core
 have hlines:=h.wf.c.lines
 cases ha:S.at core with
 | none=>
  have e:S.hear core=(S,Xh,1):=by unfold Sys.hear;rw [ha]
  rw [e];exact ⟨h.le (by omega) (by omega),.inl rfl⟩
 | some p=>
  obtain ⟨i,N⟩:=p
  obtain ⟨hc,hN⟩:=Sys.at_some ha
  cases hd:N.dn with
  | nil=>
   have e:S.hear core=(S,Xh,14):=by unfold Sys.hear;rw [ha];simp only;rw [hd]
   rw [e];exact ⟨h.le (by omega) (by omega),.inr (.inl rfl)⟩
  | cons m r=>
   have e:S.hear core=(S.setN i { N with A:=(N.A.hear m).2.1,dn:=r,ans:=Xg N.ans (N.A.hear m).1 },m,(N.A.hear m).2.2):=by
    unfold Sys.hear;rw [ha];simp only;rw [hd]
   rw [e] at hw ⊢
   have hn:=h.wf.nd i N hN
   have hu:=hn.gd.used
   have hq:=h.qu i N hN
   obtain ⟨hg,ht⟩:=hq.dn m (by rw [hd];simp)
   have hml:0≤m.line∧m.line<S.c.lines:=hn.dn.2 m (by rw [hd];simp)
   have hlen:=hq.lens
   have hr:r.length≤q:=by have:=hlen.2.2;rw [hd] at this;simp at this;omega
   have hdr: ∀x∈r,Xy x=true∧JaV x.kind=true:=fun x hx=>hq.dn x (by rw [hd];exact List.mem_cons_of_mem _ hx)
   obtain ⟨e14,eo⟩:=JaA hn.gd.ok hn.gd.wf (by omega) hg ht
   have hi:((i:Nat):Int)<S.c.cores:=by have:=Qd hN;have:=h.wf.nodes;omega
   by_cases h14:m.kind=14
   ·have e0:=e14 h14
    rw [e0] at hw ⊢
    refine ⟨⟨hw,fun j M hM=> ?_,fun l E hE=> ?_⟩,.inr (.inr ⟨i,N,m,r,rfl,hd,rfl,rfl,fun a=>absurd h14 a⟩)⟩
    ·by_cases hj:i=j
     ·subst hj
      rw [Xt hN] at hM;cases hM
      exact ⟨⟨by show N.up.length≤q+1;omega,by show N.ans.length≤q+1;omega,by show r.length≤q+1;omega⟩,hq.up,hq.ans,hdr⟩
     ·simp only [Sys.setN,List.getElem?_set_ne hj] at hM
      exact (h.qu j M hM).le (by omega)
    ·refine ZbW hN (h.line l E hE) (fun _ c=> ?_)
     rw [hd,Jbo,if_neg (fun a=>a.2 h14)] at c
     exact c
   ·
    obtain ⟨ln,hln⟩: ∃ln:Nat,m.line=(ln:Nat):=⟨m.line.toNat,by omega⟩
    have hdirlen:=h.wf.dir
    obtain ⟨E0,hE0⟩: ∃E,S.dir[ln]? =some E:=⟨_,List.getElem?_eq_getElem (show ln<S.dir.length by omega)⟩
    have hL0:=h.line ln E0 hE0
    have c0:=hL0.cv (i:Nat) (by omega) hi
    unfold Sys.sV Sys.dV Sys.uV Sys.nV Sys.aV at c0
    rw [Xal hN,hd,Jbo,if_pos ⟨hln,h14⟩,←hln] at c0
    obtain ⟨p1,p2,p3,p4,p5,p6,p7,p8⟩:=JdW (sl:=N.A.slot m.line) c0
    obtain ⟨q1,q2,q3,q4,q5⟩:=eo _ rfl p6 p5 p4
    have hans:=Qeb (m:=m) (s:=N.A.slot m.line) (t:=turn m.kind (N.A.slot m.line).state) ⟨hml.1,by omega⟩
    have hlen1:=Qec m (N.A.slot m.line) (turn m.kind (N.A.slot m.line).state)
    have epush:Xg N.ans (N.A.hear m).1=N.ans++Jbc m (N.A.slot m.line) (turn m.kind (N.A.slot m.line).state):=by
     rw [q1]
     generalize Jbc m (N.A.slot m.line) (turn m.kind (N.A.slot m.line).state)=ys at hans hlen1
     match ys,hlen1 with
     | [],_=>simp [Xg]
     | [y],_=>
      have:=Zay (hans y (by simp)).1 (q:=N.ans) (by omega)
      show (Qab N.ans y).1=_
      rw [this]
    rw [epush] at hw ⊢
    refine ⟨⟨hw,fun j M hM=> ?_,fun l E hE=> ?_⟩,.inr (.inr ⟨i,N,m,r,rfl,hd,rfl,q2,fun _=>by rw [q4];exact p3⟩)⟩
    ·by_cases hj:i=j
     ·subst hj
      rw [Xt hN] at hM;cases hM
      refine ⟨⟨by show N.up.length≤q+1;omega,by show (N.ans++_).length≤q+1;rw [List.length_append];omega,by show r.length≤q+1;omega⟩,hq.up,fun x hx=> ?_,hdr⟩
      rcases List.mem_append.1 hx with hx|hx
      ·exact hq.ans x hx
      ·exact ⟨(hans x hx).1,(hans x hx).2.1⟩
     ·simp only [Sys.setN,List.getElem?_set_ne hj] at hM
      exact (h.qu j M hM).le (by omega)
    ·refine ZbW hN (h.line l E hE) (fun _ c=> ?_)
     show CV E (Vs l) (i:Nat) ((N.A.hear m).2.1.slot (l:Nat)).state ((N.A.hear m).2.1.slot (l:Nat)).data (upV (l:Nat) N.up) (dnV (l:Nat) r) (anV (l:Nat) (N.ans++_))
     by_cases el:((l:Nat):Int)=m.line
     ·have hll:l=ln:=by omega
      subst hll
      have hE':S.dir[l]? =some E:=hE
      rw [hE0] at hE';cases hE'
      have ean:anV ((l:Nat):Int) (N.ans++Jbc m (N.A.slot m.line) (turn m.kind (N.A.slot m.line).state))=anV ((l:Nat):Int) N.ans++Jbc m (N.A.slot m.line) (turn m.kind (N.A.slot m.line).state):=by
       unfold anV
       rw [List.filter_append]
       congr 1
       rw [List.filter_eq_self]
       intro y hy
       have:=(hans y hy).2.2
       simp only [decide_eq_true_eq];omega
      rw [ean,←hln] at*
      rw [q4]
      by_cases et:turn m.kind (N.A.slot m.line).state=0
      ·rw [et];exact p7 et _
      ·rw [q5 et];exact p8 et
     ·have ean:anV ((l:Nat):Int) (N.ans++Jbc m (N.A.slot m.line) (turn m.kind (N.A.slot m.line).state))=anV ((l:Nat):Int) N.ans:=by
       unfold anV
       rw [List.filter_append]
       have:(Jbc m (N.A.slot m.line) (turn m.kind (N.A.slot m.line).state)).filter (fun x=>decide (x.line=((l:Nat):Int)))=[]:=by
        rw [List.filter_eq_nil_iff]
        intro y hy
        have:=(hans y hy).2.2
        simp only [decide_eq_true_eq];omega
       rw [this,List.append_nil]
      rw [ean,q3 _ el]
      rw [hd,Jbo,if_neg (fun a=>el a.1.symm)] at c
      exact c
end
end Go.Proofs.YtmchcjaomcdbmaaGreat.Gen
namespace Go.Proofs.YtmchcjaomcdbmaaGreat.Gen
open Go Go.Proofs.YtmchcjaomcdbmaaGreat.Abs Go.RowKit
def QI (line:Int) (m:Ms):Ms:={ m with line:=line }
section
variable {S:Sys} {q k:Nat} {Vs:Nat→Ln}
theorem Jc2: ∀{l q:List Ms},(∀m∈l,Xy m=true)→q.length+l.length≤1000→Xg q l=q++l
 | [],q,_,_=>by simp [Xg]
 | m::l,q,h,hl=>by
  rw [List.length_cons] at hl
  have h1:=Zay (h m (List.mem_cons_self ..)) (q:=q) (by omega)
  show Xg (Qab q m).1 l=_
  rw [h1,Jc2 (l:=l) (fun x hx=>h x (List.mem_cons_of_mem _ hx)) (by simp;omega)]
  simp
theorem ZdM (j:Int) (x:Snd) (l:List Snd):Qu j (x::l)=if x.to=j then x.m::Qu j l else Qu j l:=by
 unfold Qu
 rw [List.filter_cons]
 by_cases h:x.to=j
 ·rw [if_pos h,if_pos (by simpa using h)];rfl
 ·rw [if_neg h,if_neg (by simpa using h)]
theorem Xez (S:Sys) (line:Int) (x:Snd) (j:Nat):(S.send1 line x).nodes[j]? =(S.nodes[j]?).map fun N=>{ N with dn:=Xg N.dn ((Qu (j:Nat) [x]).map (QI line)) }:=by
 rw [show Qu (j:Nat) [x]=if x.to=(j:Nat) then [x.m] else [] from Q9 x.to x.m j]
 unfold Sys.send1
 split
 ·rename_i ha
  by_cases e:x.to=(j:Nat)
  ·have:S.nodes[j]? =none:=by
    cases h:S.nodes[j]? with
    | none=>rfl
    | some N=>rw [e,Sys.at_of h] at ha;cases ha
   rw [this];rfl
  ·rw [if_neg e]
   cases S.nodes[j]? <;>rfl
 ·rename_i i N ha
  obtain ⟨hc,hN⟩:=Sys.at_some ha
  by_cases e:x.to=(j:Nat)
  ·obtain rfl:i=j:=by omega
   rw [if_pos e,Xt hN,hN];rfl
  ·rw [if_neg e]
   simp only [Sys.setN]
   rw [List.getElem?_set_ne (by omega)]
   cases S.nodes[j]? <;>rfl
theorem Jaj (line:Int): ∀(l:List Snd) (S:Sys) (j:Nat),(S.sends line l).nodes[j]? =(S.nodes[j]?).map fun N=>{ N with dn:=Xg N.dn ((Qu (j:Nat) l).map (QI line)) }
 | [],S,j=>by
  show S.nodes[j]? =_
  cases S.nodes[j]? <;>rfl
 | x::l,S,j=>by
  show ((S.send1 line x).sends line l).nodes[j]? =_
  rw [Jaj line l (S.send1 line x) j,Xez,show Qu (j:Nat) [x]=if x.to=(j:Nat) then [x.m] else [] from Q9 x.to x.m j,ZdM,Option.map_map]
  congr 1
  funext N
  by_cases e:x.to=(j:Nat)
  ·rw [if_pos e,if_pos e];rfl
  ·rw [if_neg e,if_neg e];rfl
theorem QeH (S:Sys) (line:Int) (x:Snd):(S.send1 line x).dir=S.dir∧(S.send1 line x).q=S.q∧(S.send1 line x).D=S.D∧(S.send1 line x).c=S.c:=by unfold Sys.send1;split<;>exact ⟨rfl,rfl,rfl,rfl⟩
theorem ZB (line:Int): ∀(l:List Snd) (S:Sys),(S.sends line l).dir=S.dir∧(S.sends line l).q=S.q∧(S.sends line l).D=S.D∧(S.sends line l).c=S.c
 | [],S=>⟨rfl,rfl,rfl,rfl⟩
 | x::l,S=>by
  obtain ⟨a,b,c,d⟩:=ZB line l (S.send1 line x)
  obtain ⟨a',b',c',d'⟩:=QeH S line x
  exact ⟨a.trans a',b.trans b',c.trans c',d.trans d'⟩
def Jgr (line:Int) (l:List Snd):Prop:= ∀x∈l,Xy (QI line x.m)=true∧JaV x.m.kind=true
theorem Zeh {j:Int} {l:List Snd} {m:Ms} (h:m∈Qu j l): ∃x∈l,x.m=m:=by
 unfold Qu at h
 obtain ⟨x,hx,rfl⟩:=List.mem_map.1 h
 exact ⟨x,(List.mem_filter.1 hx).1,rfl⟩
theorem Zc7 {S2:Sys} {line:Int} {ln:Nat} {out:List Snd} {E':Ent} (hq9:q<900) (hk:k<100000) (hw:(S2.sends line out).wf (k+1)) (hq: ∀(i:Nat) N,S2.nodes[i]? =some N→QuI q N) (ho:Jgr line out) (h1: ∀j,(Qu j out).length≤1)
  (hln:line=(ln:Nat)) (hoth: ∀(l:Nat) E,S2.dir[l]? =some E→l≠ln→Jfy S2 l E (Vs l)) (hE:S2.dir[ln]? =some E') (hei:EI S2.c.cores E' (Vs ln) (QT S2.q S2.D (ln:Nat)))
  (hcv: ∀j,0≤j→j<S2.c.cores→CV E' (Vs ln) j (S2.sV ln j) (S2.dV ln j) (S2.uV ln j) (S2.nV ln j++((Qu j out).map (QI line)).filter (fun m=>decide (m.kind≠14))) (S2.aV ln j)):(S2.sends line out).pr (q+1) (k+1) Vs:=by
 obtain ⟨r1,r2,r3,r4⟩:=ZB line out S2
 have good: ∀j,∀m∈(Qu j out).map (QI line),Xy m=true∧JaV m.kind=true∧m.line=line:=by
  intro j m hm
  obtain ⟨y,hy,rfl⟩:=List.mem_map.1 hm
  obtain ⟨x,hx,rfl⟩:=Zeh hy
  exact ⟨(ho x hx).1,(ho x hx).2,rfl⟩
 have epush: ∀(i:Nat) N,S2.nodes[i]? =some N→Xg N.dn ((Qu (i:Nat) out).map (QI line))=N.dn++(Qu (i:Nat) out).map (QI line):=by
  intro i N hN
  refine Jc2 (fun m hm=>(good _ m hm).1) ?_
  have:=(hq i N hN).lens.2.2
  have:=h1 (i:Nat)
  rw [List.length_map];omega
 have node: ∀(i:Nat) N,S2.nodes[i]? =some N→(S2.sends line out).nodes[i]? =some { N with dn:=N.dn++(Qu (i:Nat) out).map (QI line) }:=by
  intro i N hN
  rw [Jaj,hN,Option.map_some,epush i N hN]
 have nlen:(S2.sends line out).nodes.length=S2.nodes.length:=by
  have a:=hw.nodes
  rcases Nat.lt_trichotomy (S2.sends line out).nodes.length S2.nodes.length with h|h|h
  ·have e:=Jaj line out S2 (S2.sends line out).nodes.length
   rw [List.getElem?_eq_none (Nat.le_refl _),List.getElem?_eq_getElem h] at e;cases e
  ·exact h
  ·have e:=Jaj line out S2 S2.nodes.length
   rw [List.getElem?_eq_getElem h,List.getElem?_eq_none (Nat.le_refl _)] at e;cases e
 have back: ∀(i:Nat) N',(S2.sends line out).nodes[i]? =some N'→ ∃N,S2.nodes[i]? =some N∧N'={ N with dn:=N.dn++(Qu (i:Nat) out).map (QI line) }:=by
  intro i N' h
  have hi:=Qd h
  rw [nlen] at hi
  refine ⟨S2.nodes[i],List.getElem?_eq_getElem hi,?_⟩
  rw [node i _ (List.getElem?_eq_getElem hi)] at h
  cases h;rfl
 refine ⟨hw,fun i N' h=> ?_,fun l E hEl=> ?_⟩
 ·obtain ⟨N,hN,rfl⟩:=back i N' h
  have qq:=hq i N hN
  have:=h1 (i:Nat)
  refine ⟨⟨by have:=qq.lens.1;show N.up.length≤q+1;omega,by have:=qq.lens.2.1;show N.ans.length≤q+1;omega,by have:=qq.lens.2.2;show (N.dn++_).length≤q+1;rw [List.length_append,List.length_map];omega⟩,qq.up,qq.ans,fun m hm=> ?_⟩
  rcases List.mem_append.1 hm with hm|hm
  ·exact qq.dn m hm
  ·exact ⟨(good _ m hm).1,(good _ m hm).2.1⟩
 ·rw [r1] at hEl
  have cc:(S2.sends line out).c.cores=S2.c.cores:=by rw [r4]
  have nd: ∀j,0≤j→j<S2.c.cores→(S2.sends line out).nodeD j={ S2.nodeD j with dn:=(S2.nodeD j).dn++(Qu j out).map (QI line) }:=by
   intro j h0 hj
   have hl:j.toNat<S2.nodes.length:=by have:=hw.nodes;rw [nlen,r4] at this;omega
   have e1:S2.nodes[j.toNat]? =some (S2.nodeD j):=by
    unfold Sys.nodeD;rw [List.getElem?_eq_getElem hl];rfl
   have:=node j.toNat _ e1
   rw [show ((j.toNat:Nat):Int)=j by omega] at this
   unfold Sys.nodeD at this ⊢
   rw [this];rfl
  by_cases el:l=ln
  ·subst el
   rw [hE] at hEl;cases hEl
   refine ⟨by rw [cc,r2,r3];exact hei,fun j h0 hj=> ?_⟩
   rw [cc] at hj
   have:=hcv j h0 hj
   unfold Sys.sV Sys.dV Sys.uV Sys.nV Sys.aV at this ⊢
   rw [nd j h0 hj]
   have e:dnV (l:Nat) ((S2.nodeD j).dn++(Qu j out).map (QI line))=dnV (l:Nat) (S2.nodeD j).dn++((Qu j out).map (QI line)).filter (fun m=>decide (m.kind≠14)):=by
    unfold dnV
    rw [List.filter_append]
    congr 1
    apply List.filter_congr
    intro m hm
    have:=(good j m hm).2.2
    rw [decide_eq_decide]
    exact ⟨fun a=>a.2,fun a=>⟨by rw [this,hln],a⟩⟩
   show CV _ (Vs l) j _ _ _ (dnV (l:Nat) ((S2.nodeD j).dn++(Qu j out).map (QI line))) _
   rw [e];exact this
  ·have hL:=hoth l E hEl el
   refine ⟨by rw [cc,r2,r3];exact hL.ei,fun j h0 hj=> ?_⟩
   rw [cc] at hj
   have:=hL.cv j h0 hj
   unfold Sys.sV Sys.dV Sys.uV Sys.nV Sys.aV at this ⊢
   rw [nd j h0 hj]
   have e:dnV (l:Nat) ((S2.nodeD j).dn++(Qu j out).map (QI line))=dnV (l:Nat) (S2.nodeD j).dn:=by
    unfold dnV
    rw [List.filter_append]
    have:((Qu j out).map (QI line)).filter (fun m=>decide (m.line=((l:Nat):Int)∧m.kind≠14))=[]:=by
     rw [List.filter_eq_nil_iff]
     intro m hm
     have:=(good j m hm).2.2
     simp only [decide_eq_true_eq]
     intro a
     have:=a.1
     omega
    rw [this,List.append_nil]
   show CV E (Vs l) j _ _ _ (dnV (l:Nat) ((S2.nodeD j).dn++(Qu j out).map (QI line))) _
   rw [e];exact this
end
end Go.Proofs.YtmchcjaomcdbmaaGreat.Gen
namespace Go.Proofs.YtmchcjaomcdbmaaGreat.Gen
open Go Go.Proofs.YtmchcjaomcdbmaaGreat.Abs Go.RowKit
def okY (line:Int) (y:Ms):Prop:=y.line=line∧Xy y=true∧8≤y.kind∧y.kind≤13
inductive OutF (line:Int):List Snd→Prop
 | nil:OutF line []
 | one {i:Int} {y:Ms}:okY line y→OutF line [⟨i,y⟩]
 | mask {c:ZaO} {y:Ms}:okY line y→OutF line ((Zaa c).map fun to=>(⟨to,y⟩:Snd))
section
variable {line:Int}
theorem OutF.one_each {l:List Snd} (h:OutF line l) (j:Int):(Qu j l).length≤1:=by
 cases h with
 | nil=>simp [Qu]
 | one h=>rw [Q9];split<;>simp
 | mask h=>rw [Qav];split<;>simp
theorem OutF.all {l:List Snd} (h:OutF line l): ∀x∈l,okY line x.m:=by
 cases h with
 | nil=>intro x hx;cases hx
 | one h=>intro x hx;rcases List.mem_singleton.1 hx with rfl;exact h
 | mask h=>intro x hx;obtain ⟨t,_,rfl⟩:=List.mem_map.1 hx;exact h
theorem OutF.ok {l:List Snd} (h:OutF line l):Jgr line l:=by
 intro x hx
 obtain ⟨a,b,c,d⟩:=h.all x hx
 refine ⟨?_,decide_eq_true (by omega)⟩
 have:QI line x.m=x.m:=by unfold QI;rw [←a]
 rw [this];exact b
theorem OutF.told {l:List Snd} (h:OutF line l) (j:Int):((Qu j l).map (QI line)).filter (fun m=>decide (m.kind≠14))=Qu j l:=by
 have hh: ∀m∈Qu j l,okY line m:=fun m hm=>by
  obtain ⟨x,hx,rfl⟩:=Zeh hm
  exact h.all x hx
 have e:(Qu j l).map (QI line)=Qu j l:=by
  rw [List.map_congr_left (g:=id) (fun m hm=> ?_),List.map_id]
  unfold QI
  have:=(hh m hm).1
  show ({ m with line:=line }:Ms)=m
  rw [←this]
 rw [e,List.filter_eq_self]
 intro m hm
 have:=(hh m hm).2.2
 simp only [decide_eq_true_eq];omega
theorem JbI {m:Mov} {kind:Int} (hl:0≤m.line∧m.line<64) (hk:8≤kind∧kind≤13):okY m.line (m.said kind):=by
 refine ⟨rfl,?_,hk.1,hk.2⟩
 unfold Xy Mov.said
 simp only [Bool.not_false,Bool.true_or,Bool.and_true,Bool.false_or]
 rw [decide_eq_true (show 1≤kind∧kind≤14∧0≤m.line∧m.line<64 by omega)]
 by_cases h:kind=8∨kind=9∨kind=10
 ·rw [if_pos h,decide_eq_true h];rfl
 ·rw [if_neg h,decide_eq_false h];simp
theorem ZbS {m:Mov} {b i:Int} {c:ZaO} {kind:Int} (ho:m.out=[]) (hl:0≤m.line∧m.line<64) (hk:8≤kind∧kind≤13):OutF m.line (m.wait b i c kind).out:=by
 unfold Mov.wait
 rw [(Jap _ _ _).2]
 show OutF m.line (m.out++_)
 rw [ho,List.nil_append]
 exact .mask (JbI (m:={ m with e:={ m.e with busy:=b,who:=i,wait:=c } }) hl hk)
theorem XeA {E:Ent} {i:Int} {x:Ms} (hl:0≤line∧line<64):OutF line (Mov.asked ⟨E,line,[]⟩ i x).out:=by
 unfold Mov.asked
 split
 ·unfold Mov.getS
  split
  ·exact ZbS (m:=⟨E,line,[]⟩) rfl hl (by omega)
  ·split
   ·exact .one (JbI (m:={ (⟨E,line,[]⟩:Mov) with e:={ E with owner:=i,share:=0#8 } }) hl (by omega))
   ·exact .one (JbI (m:={ (⟨E,line,[]⟩:Mov) with e:={ E with share:=E.share ||| Q8 i } }) hl (by omega))
 ·split
  ·unfold Mov.getM
   split
   ·exact .one (JbI (m:={ (⟨E,line,[]⟩:Mov) with e:={ E with owner:=i,share:=0#8 } }) hl (by omega))
   ·exact ZbS (m:=⟨E,line,[]⟩) rfl hl (by omega)
  ·split
   ·unfold Mov.put
    exact .one (JbI (m:={ (⟨E,line,[]⟩:Mov) with e:=_ }) hl (by omega))
   ·split
    ·exact ZbS (m:=⟨E,line,[]⟩) rfl hl (by omega)
    ·exact ZbS (m:=⟨E,line,[]⟩) rfl hl (by omega)
theorem Qei {E:Ent} {i:Int} {x:Ms} (hl:0≤x.line∧x.line<64):OutF x.line (Xax E i x).2.1:=by
 unfold Xax
 split
 ·exact .nil
 ·split
  ·exact .nil
  ·split
   ·exact .nil
   ·exact XeA hl
theorem XcJ {E:Ent} {i:Int} {x:Ms} (hl:0≤x.line∧x.line<64):OutF x.line (Ji E i x).2.1:=by
 unfold Ji
 split
 ·exact .nil
 ·split
  ·exact .nil
  ·split
   ·exact .nil
   ·show OutF x.line (Mov.goes ⟨E.lose i x,x.line,[]⟩).out
    unfold Mov.goes
    split
    ·exact .one (JbI (m:={ (⟨E.lose i x,x.line,[]⟩:Mov) with e:=_ }) hl (by omega))
    ·split
     ·exact .one (JbI (m:={ (⟨E.lose i x,x.line,[]⟩:Mov) with e:=_ }) hl (by omega))
     ·exact .nil
end
section
variable {S:Sys} {q k:Nat} {Vs:Nat→Ln}
theorem Jbe {i:Nat} {e':Ent} {l:Nat} {E:Ent} (hE:(S.setE i e').dir[l]? =some E) (hne:l≠i):S.dir[l]? =some E:=by
 simp only [Sys.setE] at hE
 rw [List.getElem?_set_ne (fun a=>hne a.symm)] at hE;exact hE
theorem QgD (h:S.pr q k Vs) (hq9:q<900) (hk:k<100000) (core:Int):(S.up core).1.pr (q+1) (k+1) Vs∧((S.at core=none∧(S.up core).2=1)∨(S.up core).2=0∨(S.up core).2=14∨(S.up core).2=15):=by
 have hw:=h.wf.up core
 have hlines:=h.wf.c.lines
 cases ha:S.at core with
 | none=>
  have e:S.up core=(S,1):=by unfold Sys.up;rw [ha]
  rw [e];exact ⟨h.le (by omega) (by omega),.inl ⟨rfl,rfl⟩⟩
 | some p=>
  obtain ⟨i,N⟩:=p
  obtain ⟨hc,hN⟩:=Sys.at_some ha
  cases hu:N.up with
  | nil=>
   have e:S.up core=(S,14):=by unfold Sys.up;rw [ha];simp only;rw [hu]
   rw [e];exact ⟨h.le (by omega) (by omega),.inr (.inr (.inl rfl))⟩
  | cons m r=>
   have hn:=h.wf.nd i N hN
   have hq:=h.qu i N hN
   obtain ⟨hg,hak⟩:=hq.up m (by rw [hu];simp)
   have hml:0≤m.line∧m.line<S.c.lines:=hn.up.2 m (by rw [hu];simp)
   obtain ⟨ln,hln⟩: ∃ln:Nat,m.line=(ln:Nat):=⟨m.line.toNat,by omega⟩
   have hdirlen:=h.wf.dir
   obtain ⟨E,hE⟩: ∃E,S.dir[ln]? =some E:=⟨_,List.getElem?_eq_getElem (show ln<S.dir.length by omega)⟩
   have hent:S.ent m.line=some (ln,E):=by rw [hln];exact Sys.ent_of hE
   by_cases hb:E.busy≠0
   ·have e:S.up core=(S,15):=by unfold Sys.up;rw [ha];simp only;rw [hu];simp only;rw [hent];simp only;rw [if_pos hb]
    rw [e];exact ⟨h.le (by omega) (by omega),.inr (.inr (.inr rfl))⟩
   have hb0:E.busy=0:=by simpa using hb
   have hL:=h.line ln E hE
   have hi:((i:Nat):Int)<S.c.cores:=by have:=Qd hN;have:=h.wf.nodes;omega
   have hgot:EI S.c.cores (S.got ln E) (Vs ln) (QT S.q S.D (ln:Nat))∧QaO S.c.cores (S.got ln E) (Vs ln) (S.sV ln) (S.dV ln) (S.uV ln) (S.nV ln) (S.aV ln)∧(S.got ln E).busy=0:=by
    unfold Sys.got
    split
    ·exact ⟨hL.ei,hL.cv,hb0⟩
    ·rename_i hh
     obtain ⟨a,b⟩:=Qcr hL.ei (by simpa using hh) hL.cv
     exact ⟨a,b,hb0⟩
   obtain ⟨g1,g2,g3⟩:=hgot
   have hU:S.uV ln (i:Nat)=if m.kind≤3 then m::upV (ln:Nat) r else upV (ln:Nat) r:=by
    unfold Sys.uV
    rw [Xal hN,hu,Jcl]
    by_cases hk3:m.kind≤3
    ·rw [if_pos ⟨hln,hk3⟩,if_pos hk3]
    ·rw [if_neg (fun a=>hk3 a.2),if_neg hk3]
   obtain ⟨a1,a2⟩:=Zee g1 (Xcp h.wf) g3 (Jc5 S ln E) (by omega) hi hg hak g2 hU
   rw [←hc] at a1 a2
   have e:S.up core=((((S.here ln E).setN i { N with up:=r }).setE ln (Xax (S.got ln E) core m).1).sends m.line (Xax (S.got ln E) core m).2.1,0):=by
    unfold Sys.up;rw [ha];simp only;rw [hu];simp only;rw [hent];simp only;rw [if_neg hb,if_neg (fun q=>q a1)]
   rw [e] at hw ⊢
   refine ⟨?_,.inr (.inl rfl)⟩
   have hF:OutF m.line (Xax (S.got ln E) core m).2.1:=Qei ⟨hml.1,by omega⟩
   have hr: ∀x∈r,Xy x=true∧Qb6 x.kind=true:=fun x hx=>hq.up x (by rw [hu];exact List.mem_cons_of_mem _ hx)
   have hrl:r.length≤q:=by have:=hq.lens.1;rw [hu] at this;simp at this;omega
   generalize (Xax (S.got ln E) core m).2.1=out at hF a2 hw ⊢
   generalize (Xax (S.got ln E) core m).1=E' at a2 hw ⊢
   rw [Xco S ln E hE] at hw ⊢
   have nodes2:(((S.setE ln (S.got ln E)).setN i { N with up:=r }).setE ln E').nodes=(S.setN i { N with up:=r }).nodes:=rfl
   have nd: ∀j,0≤j→(((S.setE ln (S.got ln E)).setN i { N with up:=r }).setE ln E').nodeD j=if j=(i:Nat) then { N with up:=r } else S.nodeD j:=fun j h0=>XbU (Qd hN) j h0
   have ndi:=Xal hN
   refine Zc7 (line:=m.line) (ln:=ln) (E':=E') hq9 hk (hw.le (by omega)) (fun j M hM=> ?_) hF.ok (fun j=>hF.one_each j) hln (fun l E0 hE0 hne=> ?_) ?_ a2.ei (fun j h0 hj=> ?_)
   ·rw [nodes2] at hM
    by_cases hj:i=j
    ·subst hj
     rw [Xt hN] at hM;cases hM
     exact ⟨⟨hrl,hq.lens.2.1,hq.lens.2.2⟩,hr,hq.ans,hq.dn⟩
    ·simp only [Sys.setN,List.getElem?_set_ne hj] at hM
     exact h.qu j M hM
   ·have hE1:S.dir[l]? =some E0:=by
     have:=Jbe hE0 hne
     exact Jbe (S:=S) (i:=ln) this hne
    have hL0:=h.line l E0 hE1
    refine ⟨hL0.ei,fun j h0 hj=> ?_⟩
    have c:=hL0.cv j h0 hj
    unfold Sys.sV Sys.dV Sys.uV Sys.nV Sys.aV at c ⊢
    rw [nd j h0]
    by_cases ej:j=(i:Nat)
    ·subst ej
     rw [if_pos rfl]
     rw [ndi,hu,Jcl,if_neg (fun a=>by have:=a.1;omega)] at c
     exact c
    ·rw [if_neg ej];exact c
   ·simp only [Sys.setE,Sys.setN]
    rw [List.getElem?_set_self (by rw [List.length_set];exact Qd hE)]
   ·rw [hF.told]
    have c:=a2.cv j h0 hj
    have sv: ∀j,0≤j→(((S.setE ln (S.got ln E)).setN i { N with up:=r }).setE ln E').sV ln j=S.sV ln j∧(((S.setE ln (S.got ln E)).setN i { N with up:=r }).setE ln E').dV ln j=S.dV ln j∧(((S.setE ln (S.got ln E)).setN i { N with up:=r }).setE ln E').nV ln j=S.nV ln j∧(((S.setE ln (S.got ln E)).setN i { N with up:=r }).setE ln E').aV ln j=S.aV ln j∧(((S.setE ln (S.got ln E)).setN i { N with up:=r }).setE ln E').uV ln j=if j=(i:Nat) then upV (ln:Nat) r else S.uV ln j:=by
     intro j h0
     unfold Sys.sV Sys.dV Sys.uV Sys.nV Sys.aV
     rw [nd j h0]
     by_cases ej:j=(i:Nat)
     ·subst ej
      rw [if_pos rfl,if_pos rfl,ndi];exact ⟨rfl,rfl,rfl,rfl,rfl⟩
     ·rw [if_neg ej,if_neg ej];exact ⟨rfl,rfl,rfl,rfl,rfl⟩
    obtain ⟨b1,b2,b3,b4,b5⟩:=sv j h0
    rw [b1,b2,b3,b4,b5]
    simp only [hc] at c
    exact c
theorem Jfl (h:S.pr q k Vs) (hq9:q<900) (hk:k<100000) (core:Int):(S.answer core).1.pr (q+1) (k+1) Vs∧((S.at core=none∧(S.answer core).2=1)∨(S.answer core).2=0∨(S.answer core).2=14):=by
 have hw:=h.wf.answer core
 have hlines:=h.wf.c.lines
 cases ha:S.at core with
 | none=>
  have e:S.answer core=(S,1):=by unfold Sys.answer;rw [ha]
  rw [e];exact ⟨h.le (by omega) (by omega),.inl ⟨rfl,rfl⟩⟩
 | some p=>
  obtain ⟨i,N⟩:=p
  obtain ⟨hc,hN⟩:=Sys.at_some ha
  cases hu:N.ans with
  | nil=>
   have e:S.answer core=(S,14):=by unfold Sys.answer;rw [ha];simp only;rw [hu]
   rw [e];exact ⟨h.le (by omega) (by omega),.inr (.inr rfl)⟩
  | cons m r=>
   have hn:=h.wf.nd i N hN
   have hq:=h.qu i N hN
   obtain ⟨hg,hak⟩:=hq.ans m (by rw [hu];simp)
   have hml:0≤m.line∧m.line<S.c.lines:=hn.ans.2 m (by rw [hu];simp)
   obtain ⟨ln,hln⟩: ∃ln:Nat,m.line=(ln:Nat):=⟨m.line.toNat,by omega⟩
   have hdirlen:=h.wf.dir
   obtain ⟨E,hE⟩: ∃E,S.dir[ln]? =some E:=⟨_,List.getElem?_eq_getElem (show ln<S.dir.length by omega)⟩
   have hent:S.ent m.line=some (ln,E):=by rw [hln];exact Sys.ent_of hE
   have hL:=h.line ln E hE
   have hi:((i:Nat):Int)<S.c.cores:=by have:=Qd hN;have:=h.wf.nodes;omega
   have hA:S.aV ln (i:Nat)=m::anV (ln:Nat) r:=by
    unfold Sys.aV
    rw [Xal hN,hu,Xdk,if_pos hln]
   obtain ⟨a0,a1,a2⟩:=QcL hL.ei (Xcp h.wf) (by omega) hi hg hL.cv hA
   rw [←hc] at a1 a2
   have e:S.answer core=(((S.setN i { N with ans:=r }).setE ln (Ji E core m).1).sends m.line (Ji E core m).2.1,0):=by
    unfold Sys.answer;rw [ha];simp only;rw [hu];simp only;rw [hent];simp only;rw [if_neg (fun q=>q a1)]
   rw [e] at hw ⊢
   refine ⟨?_,.inr (.inl rfl)⟩
   have hF:OutF m.line (Ji E core m).2.1:=XcJ ⟨hml.1,by omega⟩
   have hr: ∀x∈r,Xy x=true∧Xaf x.kind=true:=fun x hx=>hq.ans x (by rw [hu];exact List.mem_cons_of_mem _ hx)
   have hrl:r.length≤q:=by have:=hq.lens.2.1;rw [hu] at this;simp at this;omega
   generalize (Ji E core m).2.1=out at hF a2 hw ⊢
   generalize (Ji E core m).1=E' at a2 hw ⊢
   have nodes2:((S.setN i { N with ans:=r }).setE ln E').nodes=(S.setN i { N with ans:=r }).nodes:=rfl
   have nd: ∀j,0≤j→((S.setN i { N with ans:=r }).setE ln E').nodeD j=if j=(i:Nat) then { N with ans:=r } else S.nodeD j:=fun j h0=>XbU (Qd hN) j h0
   have ndi:=Xal hN
   refine Zc7 (line:=m.line) (ln:=ln) (E':=E') hq9 hk (hw.le (by omega)) (fun j M hM=> ?_) hF.ok (fun j=>hF.one_each j) hln (fun l E0 hE0 hne=> ?_) ?_ a2.ei (fun j h0 hj=> ?_)
   ·rw [nodes2] at hM
    by_cases hj:i=j
    ·subst hj
     rw [Xt hN] at hM;cases hM
     exact ⟨⟨hq.lens.1,hrl,hq.lens.2.2⟩,hq.up,hr,hq.dn⟩
    ·simp only [Sys.setN,List.getElem?_set_ne hj] at hM
     exact h.qu j M hM
   ·have hE1:S.dir[l]? =some E0:=Jbe (S:=S.setN i { N with ans:=r }) hE0 hne
    have hL0:=h.line l E0 hE1
    refine ⟨hL0.ei,fun j h0 hj=> ?_⟩
    have c:=hL0.cv j h0 hj
    unfold Sys.sV Sys.dV Sys.uV Sys.nV Sys.aV at c ⊢
    rw [nd j h0]
    by_cases ej:j=(i:Nat)
    ·subst ej
     rw [if_pos rfl]
     rw [ndi,hu,Xdk,if_neg (fun a=>by omega)] at c
     exact c
    ·rw [if_neg ej];exact c
   ·simp only [Sys.setE,Sys.setN]
    rw [List.getElem?_set_self (Qd hE)]
   ·rw [hF.told]
    have c:=a2.cv j h0 hj
    have sv: ∀j,0≤j→((S.setN i { N with ans:=r }).setE ln E').sV ln j=S.sV ln j∧((S.setN i { N with ans:=r }).setE ln E').dV ln j=S.dV ln j∧((S.setN i { N with ans:=r }).setE ln E').nV ln j=S.nV ln j∧((S.setN i { N with ans:=r }).setE ln E').uV ln j=S.uV ln j∧((S.setN i { N with ans:=r }).setE ln E').aV ln j=if j=(i:Nat) then [] else S.aV ln j:=by
     intro j h0
     unfold Sys.sV Sys.dV Sys.uV Sys.nV Sys.aV
     rw [nd j h0]
     by_cases ej:j=(i:Nat)
     ·subst ej
      rw [if_pos rfl,if_pos rfl,ndi]
      exact ⟨rfl,rfl,rfl,rfl,a0⟩
     ·rw [if_neg ej,if_neg ej];exact ⟨rfl,rfl,rfl,rfl,rfl⟩
    obtain ⟨b1,b2,b3,b4,b5⟩:=sv j h0
    rw [b1,b2,b3,b4,b5]
    simp only [hc] at c
    exact c
end
end Go.Proofs.YtmchcjaomcdbmaaGreat.Gen
namespace Go.Proofs.YtmchcjaomcdbmaaGreat.Gen
open Go Go.Proofs.YtmchcjaomcdbmaaGreat.Abs Go.RowKit
theorem Jay (a b:List En) (x:Int):newest (a++b) x=(newest b x).or (newest a x):=by
 unfold newest
 rw [List.reverse_append,List.find?_append]
 cases List.find? (fun e=>decide (e.line=x)) b.reverse<;>rfl
theorem ZcS (e:En) (x:Int):newest [e] x=if e.line=x then some e.data else none:=by
 unfold newest
 by_cases h:e.line=x
 ·rw [if_pos h];simp [h]
 ·rw [if_neg h];simp [h]
theorem Xd0 {es:List En} {x:Int} (h: ∀e∈es,e.line≠x):newest es x=none:=by
 unfold newest
 have:es.reverse.find? (fun e=>decide (e.line=x))=none:=by
  rw [List.find?_eq_none]
  intro e he
  have:=h e (List.mem_reverse.1 he)
  simpa using this
 rw [this];rfl
theorem QcY (es:List En) (D:Dev) (e:En) (x:Int):QT (es++[e]) D x=if e.line=x then e.data else QT es D x:=by
 unfold QT
 rw [Jay,ZcS]
 by_cases h:e.line=x
 ·rw [if_pos h,if_pos h];rfl
 ·rw [if_neg h,if_neg h];rfl
theorem get_put {D:Dev} {line x:Int} {d:Ln} (h:0≤line∧line<D.mem.length):(D.put line d).get x=if line=x then d else D.get x:=by
 have e:D.put line d=⟨D.mem.set line.toNat d,D.vol⟩:=by
  unfold Dev.put Qca;rw [if_pos (by rw [if_pos h])]
 rw [e]
 unfold Dev.get
 by_cases hx:0≤x
 ·rw [if_pos hx,if_pos hx]
  show (D.mem.set line.toNat d).getD x.toNat zeroL=_
  rw [List.getD_eq_getElem?_getD]
  by_cases e2:line=x
  ·rw [if_pos e2,←e2,List.getElem?_set_self (by omega)];rfl
  ·rw [if_neg e2,List.getElem?_set_ne (by omega),List.getD_eq_getElem?_getD]
 ·rw [if_neg hx,if_neg hx,if_neg (by omega)]
theorem ZdT {es:List En} {D:Dev} {line:Int} (hr:inR es D.mem.length) (x:Int):QT (JI es D line).1 (JI es D line).2.1 x=QT es D x:=by
 unfold JI
 cases hf:es.findIdx? (fun e=>decide (e.line=line)) with
 | none=>rfl
 | some k=>
  obtain ⟨hk,h1,h2⟩:=List.findIdx?_eq_some_iff_getElem.1 hf
  have h1:es[k].line=line:=by simpa using h1
  have hpre: ∀e∈es.take k,e.line≠line:=by
   intro e he
   obtain ⟨j,hj,rfl⟩:=List.getElem_of_mem he
   rw [List.length_take] at hj
   have:=h2 j (by omega)
   rw [List.getElem_take]
   simpa using this
  have hsplit:es=es.take k++es[k]::es.drop (k+1):=by rw [List.getElem_cons_drop,List.take_append_drop]
  have her:es.eraseIdx k=es.take k++es.drop (k+1):=List.eraseIdx_eq_take_drop_succ es k
  have hget:es.getD k ZS=es[k]:=by rw [List.getD_eq_getElem?_getD,List.getElem?_eq_getElem hk];rfl
  have hin:=hr es[k] (List.getElem_mem hk)
  show QT (es.eraseIdx k) (D.put line (es.getD k ZS).data) x=_
  rw [her,hget]
  have e1:newest es x=(newest (es.drop (k+1)) x).or ((if line=x then some es[k].data else none).or (newest (es.take k) x)):=by
   have h3:newest es x=newest (es.take k++([es[k]]++es.drop (k+1))) x:=by
    congr 1
   rw [h3,Jay,Jay,ZcS,h1,Option.or_assoc]
  unfold QT
  rw [e1,Jay,get_put (by omega)]
  by_cases hx:line=x
  ·subst hx
   rw [Xd0 hpre,if_pos rfl,if_pos rfl]
   cases newest (es.drop (k+1)) line<;>rfl
  ·rw [if_neg hx,if_neg hx,Option.none_or]
section
variable {S:Sys} {q k:Nat} {Vs:Nat→Ln}
theorem Jf4 {q':List En} {D':Dev} (h:S.pr q k Vs) (hw:Sys.wf { S with q:=q',D:=D' } k) (hr: ∀l:Nat,l<S.dir.length→QT q' D' (l:Nat)=QT S.q S.D (l:Nat)):Sys.pr { S with q:=q',D:=D' } q k Vs:=by
 refine ⟨hw,h.qu,fun l E hE=> ?_⟩
 have hL:=h.line l E hE
 exact ⟨by show EI S.c.cores E (Vs l) (QT q' D' (l:Nat));rw [hr l (Qd hE)];exact hL.ei,hL.cv⟩
theorem Xed (h:S.pr q k Vs) (line:Int):(S.drain line).1.pr q k Vs:=by
 have hw:=h.wf.drain line
 unfold Sys.drain at hw ⊢
 split
 ·exact h
 ·rename_i hl
  rw [if_neg hl] at hw
  exact Jf4 h hw (fun l _=>ZdT h.wf.inr _)
theorem XbI (h:S.pr q k Vs) {i:Nat} {e:Ent} (hi:S.dir[i]? =some e):((S.write i e).2≠0→(S.write i e).1=S)∧
  ((S.write i e).2=0→(S.write i e).1.nodes=S.nodes∧(S.write i e).1.dir=S.dir∧(S.write i e).1.c=S.c∧(if e.dirty=true then QT (S.write i e).1.q (S.write i e).1.D (i:Nat)=e.data else QT (S.write i e).1.q (S.write i e).1.D (i:Nat)=QT S.q S.D (i:Nat))∧ ∀l:Nat,l≠i→QT (S.write i e).1.q (S.write i e).1.D (l:Nat)=QT S.q S.D (l:Nat)):=by
 unfold Sys.write
 by_cases hd:e.dirty=false
 ·rw [if_pos hd]
  exact ⟨fun _=>rfl,fun _=>⟨rfl,rfl,rfl,by rw [if_neg (by rw [hd];decide)],fun _ _=>rfl⟩⟩
 ·rw [if_neg hd]
  unfold Qaz
  split
  ·exact ⟨fun _=>rfl,fun a=>by rename_i b;exact absurd a b⟩
  ·split
   ·exact ⟨fun _=>rfl,fun a=>by exact absurd a (show ¬(13:Int)=0 by decide)⟩
   ·refine ⟨fun a=>absurd rfl a,fun _=>⟨rfl,rfl,rfl,?_,fun l hl=> ?_⟩⟩
    ·rw [if_pos (by simpa using hd)]
     show QT (S.q++[⟨(i:Nat),e.data⟩]) S.D (i:Nat)=_
     rw [QcY,if_pos rfl]
    ·show QT (S.q++[⟨(i:Nat),e.data⟩]) S.D (l:Nat)=_
     rw [QcY,if_neg (fun a=>hl (by have:((i:Nat):Int)=(l:Nat):=a;omega))]
theorem Zge (h:S.pr q k Vs) (hq9:q<900) (hk:k<100000) (line:Int):(S.push line).1.pr (q+1) (k+1) Vs:=by
 have hw:=h.wf.push line
 have hlines:=h.wf.c.lines
 unfold Sys.push at hw ⊢
 split at hw
 ·exact h.le (by omega) (by omega)
 ·rename_i i e he
  obtain ⟨hl,hi⟩:=Sys.ent_some he
  have hlt:=Qd hi
  have hdl:=h.wf.dir
  obtain ⟨w1,w2⟩:=XbI h hi
  by_cases hr:Qaa e=false
  ·rw [if_pos hr];exact h.le (by omega) (by omega)
  rw [if_neg hr] at hw ⊢
  by_cases h2:(S.write i e).2≠0
  ·rw [if_pos h2]
   rw [w1 h2];exact h.le (by omega) (by omega)
  rw [if_neg h2] at hw ⊢
  obtain ⟨f1,f2,f3,f4,f5⟩:=w2 (by simpa using h2)
  have hL:=h.line i e hi
  obtain ⟨p1,p2,p3,y,p4,p5⟩:=ZcD (M':=QT (S.write i e).1.q (S.write i e).1.D (i:Nat)) hL.ei (by simpa using hr) hL.cv f4
  rw [if_neg (fun a=>a p1)] at hw ⊢
  have g:=QaU hL.ei
  have hy:y=⟨14,0,false,false,zeroL⟩:=by
   unfold Zj at p4
   rw [if_neg hr] at p4
   simp only [Mov.tell,Mov.over,List.nil_append,List.cons.injEq,Snd.mk.injEq,and_true] at p4
   rw [←p4.2];rfl
  rw [p4] at hw ⊢
  generalize (Zj e).1=E' at p2 p3 hw ⊢
  have nodes: ∀j,((S.write i e).1.setE i E').nodeD j=S.nodeD j:=fun j=>by
   show ((S.write i e).1.nodes[j.toNat]?).getD _=_
   rw [f1];rfl
  have views: ∀l:Nat,((S.write i e).1.setE i E').sV l=S.sV l∧((S.write i e).1.setE i E').dV l=S.dV l∧((S.write i e).1.setE i E').uV l=S.uV l∧((S.write i e).1.setE i E').nV l=S.nV l∧((S.write i e).1.setE i E').aV l=S.aV l:=by
   intro l
   refine ⟨?_,?_,?_,?_,?_⟩<;>funext j<;>simp only [Sys.sV,Sys.dV,Sys.uV,Sys.nV,Sys.aV,nodes]
  refine Zc7 (line:=line) (ln:=i) (E':=E') hq9 hk (hw.le (by omega)) (fun j M hM=> ?_) ?_ (fun j=> ?_) hl (fun l E0 hE0 hne=> ?_) ?_ ?_ (fun j h0 hj=> ?_)
  ·have:(S.write i e).1.nodes[j]? =some M:=hM
   rw [f1] at this
   exact h.qu j M this
  ·intro x hx
   rcases List.mem_singleton.1 hx with rfl
   refine ⟨?_,?_⟩
   ·show Xy (QI line y)=true
    rw [hy]
    unfold Xy QI
    simp only [Bool.not_false,Bool.true_or,Bool.and_true,Bool.false_or]
    rw [decide_eq_true (show 1≤(14:Int)∧(14:Int)≤14∧0≤line∧line<64 by omega)]
    simp
   ·show JaV y.kind=true
    rw [p5];rfl
  ·rw [Q9];split<;>simp
  ·have hE1:S.dir[l]? =some E0:=by
    have:=Jbe hE0 hne
    rw [f2] at this;exact this
   have hL0:=h.line l E0 hE1
   obtain ⟨v1,v2,v3,v4,v5⟩:=views l
   refine ⟨?_,?_⟩
   ·show EI (S.write i e).1.c.cores E0 (Vs l) (QT (S.write i e).1.q (S.write i e).1.D (l:Nat))
    rw [f3,f5 l hne];exact hL0.ei
   ·show QaO (S.write i e).1.c.cores E0 (Vs l) _ _ _ _ _
    rw [v1,v2,v3,v4,v5,f3];exact hL0.cv
  ·show ((S.write i e).1.dir.set i E')[i]? =some E'
   rw [f2];exact List.getElem?_set_self hlt
  ·show EI (S.write i e).1.c.cores E' (Vs i) (QT (S.write i e).1.q (S.write i e).1.D (i:Nat))
   rw [f3];exact p2
  ·have hj':j<S.c.cores:=by
    have:((S.write i e).1.setE i E').c=S.c:=f3
    rw [this] at hj;exact hj
   obtain ⟨v1,v2,v3,v4,v5⟩:=views i
   have ef:((Qu j [(⟨e.who,y⟩:Snd)]).map (QI line)).filter (fun m=>decide (m.kind≠14))=[]:=by
    rw [Q9]
    split
    ·rw [List.filter_eq_nil_iff]
     intro m hm
     obtain ⟨y',hy',rfl⟩:=List.mem_map.1 hm
     rcases List.mem_singleton.1 hy' with rfl
     show ¬decide ((QI line y').kind≠14)=true
     rw [show (QI line y').kind=14 from p5];decide
    ·rfl
   rw [ef,List.append_nil,v1,v2,v3,v4,v5]
   exact p3 j h0 hj'
theorem ZfZ (h:S.pr q k Vs) (line:Int):(S.drop line).1.pr q k Vs:=by
 have hw:=h.wf.drop line
 unfold Sys.drop at hw ⊢
 split at hw
 ·exact h
 ·rename_i i e he
  obtain ⟨hl,hi⟩:=Sys.ent_some he
  have hlt:=Qd hi
  obtain ⟨w1,w2⟩:=XbI h hi
  by_cases hc:e.here=false∨0≤e.owner∨nz e.share=true∨e.busy≠0
  ·rw [if_pos hc];exact h
  rw [if_neg hc] at hw ⊢
  by_cases h2:(S.write i e).2≠0
  ·rw [if_pos h2,w1 h2];exact h
  rw [if_neg h2] at hw ⊢
  obtain ⟨f1,f2,f3,f4,f5⟩:=w2 (by simpa using h2)
  have hL:=h.line i e hi
  have c1:e.here=true:=by
   cases q:e.here with
   | true=>rfl
   | false=>exact absurd (.inl q) hc
  have c2:e.owner<0:=by
   by_cases q:0≤e.owner
   ·exact absurd (.inr (.inl q)) hc
   ·omega
  have c3:nz e.share=false:=by
   cases q:nz e.share with
   | false=>rfl
   | true=>exact absurd (.inr (.inr (.inl q))) hc
  have c4:e.busy=0:=by
   by_cases q:e.busy=0
   ·exact q
   ·exact absurd (.inr (.inr (.inr q))) hc
  obtain ⟨d1,d2⟩:=ZeX (M':=QT (S.write i e).1.q (S.write i e).1.D (i:Nat)) hL.ei c1 c2 c3 c4 hL.cv f4
  have nodes: ∀j,((S.write i e).1.setE i emptyEnt).nodeD j=S.nodeD j:=fun j=>by
   show ((S.write i e).1.nodes[j.toNat]?).getD _=_
   rw [f1];rfl
  have views: ∀l:Nat,((S.write i e).1.setE i emptyEnt).sV l=S.sV l∧((S.write i e).1.setE i emptyEnt).dV l=S.dV l∧((S.write i e).1.setE i emptyEnt).uV l=S.uV l∧((S.write i e).1.setE i emptyEnt).nV l=S.nV l∧((S.write i e).1.setE i emptyEnt).aV l=S.aV l:=by
   intro l
   refine ⟨?_,?_,?_,?_,?_⟩<;>funext j<;>simp only [Sys.sV,Sys.dV,Sys.uV,Sys.nV,Sys.aV,nodes]
  refine ⟨hw,fun j M hM=> ?_,fun l E0 hE0=> ?_⟩
  ·have:(S.write i e).1.nodes[j]? =some M:=hM
   rw [f1] at this
   exact h.qu j M this
  ·obtain ⟨v1,v2,v3,v4,v5⟩:=views l
   by_cases hne:l=i
   ·subst hne
    have:E0=emptyEnt:=by
     have hE0:((S.write l e).1.dir.set l emptyEnt)[l]? =some E0:=hE0
     rw [f2,List.getElem?_set_self hlt] at hE0
     cases hE0;rfl
    subst this
    refine ⟨?_,?_⟩
    ·show EI (S.write l e).1.c.cores emptyEnt (Vs l) (QT (S.write l e).1.q (S.write l e).1.D (l:Nat))
     rw [f3];exact d1
    ·show QaO (S.write l e).1.c.cores emptyEnt (Vs l) _ _ _ _ _
     rw [v1,v2,v3,v4,v5,f3];exact d2
   ·have hE1:S.dir[l]? =some E0:=by
     have:=Jbe hE0 hne
     rw [f2] at this;exact this
    have hL0:=h.line l E0 hE1
    refine ⟨?_,?_⟩
    ·show EI (S.write i e).1.c.cores E0 (Vs l) (QT (S.write i e).1.q (S.write i e).1.D (l:Nat))
     rw [f3,f5 l hne];exact hL0.ei
    ·show QaO (S.write i e).1.c.cores E0 (Vs l) _ _ _ _ _
     rw [v1,v2,v3,v4,v5,f3];exact hL0.cv
theorem XfK {c:Cfg} (hc:c.good) {D:Dev} (hv:D.vol=c.vol.toNat) (hm:D.mem.length=c.lines.toNat) (q k:Nat):Sys.pr ⟨c,List.replicate c.cores.toNat (nd0 c),List.replicate c.lines.toNat emptyEnt,[],D⟩ q k (fun l=>QT [] D (l:Nat)):=by
 have hw:=Zc8 hc hv hm k
 have hcores:=hc.cores
 have isN: ∀(i:Nat) N,(List.replicate c.cores.toNat (nd0 c))[i]? =some N→N=nd0 c:=by
  intro i N h
  obtain ⟨_,h⟩:=List.getElem?_eq_some_iff.1 h
  rw [List.getElem_replicate] at h;exact h.symm
 refine ⟨hw,fun i N hN=> ?_,fun l E hE=> ?_⟩
 ·obtain rfl:=isN i N hN
  exact ⟨⟨Nat.zero_le _,Nat.zero_le _,Nat.zero_le _⟩,(fun m hm=>nomatch hm),(fun m hm=>nomatch hm),(fun m hm=>nomatch hm)⟩
 ·have:E=emptyEnt:=by
   obtain ⟨_,h⟩:=List.getElem?_eq_some_iff.1 (show (List.replicate c.lines.toNat emptyEnt)[l]? =some E from hE)
   rw [List.getElem_replicate] at h;exact h.symm
  subst this
  refine ⟨⟨by decide +kernel,by show (-1:Int)<c.cores;omega,fun j a=>(by rw [show emptyEnt.share=0#8 from rfl,XD] at a;cases a),fun a=>absurd rfl a,fun a=> ?_,fun a=> ?_,fun _ a=>(by cases a),fun _=>rfl,fun a=>(by cases a)⟩,fun j h0 hj=> ?_⟩
  ·have a:(0:Int)=1∨(0:Int)=4:=a
   omega
  ·have a:(0:Int)=2:=a
   omega
  ·have hnd:Sys.nodeD ⟨c,List.replicate c.cores.toNat (nd0 c),List.replicate c.lines.toNat emptyEnt,[],D⟩ j=nd0 c:=by
    unfold Sys.nodeD
    have hj':j.toNat<c.cores.toNat:=by have:j<c.cores:=hj;omega
    show ((List.replicate c.cores.toNat (nd0 c))[j.toNat]?).getD _=_
    rw [List.getElem?_replicate,if_pos hj'];rfl
   unfold Sys.sV Sys.dV Sys.uV Sys.nV Sys.aV
   rw [hnd]
   have hwf:=QfQ hc 0
   have hs:(nd0 c).A.slot (l:Nat)=J4:=Qdj hwf.gd.ok (fun s hs=>by
    obtain ⟨i,hi,h0,_⟩:=hs
    have:s∈List.replicate (c.sets.toNat*c.ways.toNat) J4:=List.mem_of_getElem? hi
    rcases List.mem_replicate.1 this with ⟨_,rfl⟩
    exact h0 rfl)
   rw [hs]
   refine .rest (XD j) (.r0 ⟨by show (-1:Int)≠j;omega,XD j⟩ (fun a=> ?_))
   have a:(0:Int)=1∨(0:Int)=2:=a.1
   omega
end
end Go.Proofs.YtmchcjaomcdbmaaGreat.Gen
namespace Go.Proofs.YtmchcjaomcdbmaaGreat.Gen
open Go Go.Proofs.YtmchcjaomcdbmaaGreat.Abs Go.RowKit
section
variable {S:Sys} {q k:Nat} {Vs:Nat→Ln}
theorem QeY {c:Cfg} (hc:c.good) (q k:Nat):(XaP c []).pr q k (fun _=>zeroL):=by
 have hl:=hc.lines
 have hv:=hc.vol
 have h:=XfK hc (D:=ZfN c []) rfl (by show (List.replicate c.lines.toNat zeroL).length=_;simp) q k
 have e:(fun l:Nat=>QT [] (ZfN c []) (l:Nat))=fun _=>zeroL:=by
  funext l
  show ((ZfN c []).get ((l:Nat):Int))=zeroL
  unfold Dev.get
  rw [if_pos (by omega),Int.toNat_natCast]
  show (List.replicate c.lines.toNat zeroL).getD l zeroL=zeroL
  rw [List.getD_eq_getElem?_getD,List.getElem?_replicate]
  split<;>rfl
 rw [e] at h;exact h
theorem Xfs (h:S.pr q k Vs) {core line word:Int} (hh:(S.load core line word).2.2=true):(0≤core∧core<S.c.cores)∧(0≤line∧line<S.c.lines)∧(0≤word∧word<8)∧(S.load core line word).2.1=QaX (Vs line.toNat) word:=by
 unfold Sys.load at hh ⊢
 cases ha:S.at core with
 | none=>rw [ha] at hh;cases hh
 | some p=>
  obtain ⟨i,N⟩:=p
  rw [ha] at hh
  simp only at hh ⊢
  obtain ⟨hc,hN⟩:=Sys.at_some ha
  have hlt:=Qd hN
  have hnod:=h.wf.nodes
  have hcc:=h.wf.c.cores
  by_cases hl:S.line line=false
  ·rw [if_pos hl] at hh;cases hh
  rw [if_neg hl] at hh ⊢
  have hl':=(h.wf.line line).1 (by simpa using hl)
  have hh:N.A.loadHit line word=true:=hh
  have hh0:=hh
  unfold Arr.loadHit at hh
  rw [Bool.and_eq_true] at hh
  have hw:=of_decide_eq_true (show decide _=true from hh.1)
  have hs:=of_decide_eq_true (show decide _=true from hh.2)
  obtain ⟨ln,rfl⟩: ∃ln:Nat,line=(ln:Nat):=⟨line.toNat,by omega⟩
  have hdl:=h.wf.dir
  obtain ⟨E,hE⟩: ∃E,S.dir[ln]? =some E:=⟨_,List.getElem?_eq_getElem (show ln<S.dir.length by omega)⟩
  have cv:=(h.line ln E hE).cv (i:Nat) (by omega) (by omega)
  unfold Sys.sV Sys.dV at cv
  rw [Xal hN] at cv
  have hd:=Jf5 cv hs
  refine ⟨by omega,hl',by omega,?_⟩
  show N.A.loadV _ _=_
  unfold Arr.loadV
  rw [if_pos hh0,hd,Int.toNat_natCast]
end
end Go.Proofs.YtmchcjaomcdbmaaGreat.Gen
namespace Go.Proofs.YtmchcjaomcdbmaaGreat.Gen
open Go Go.Proofs.YtmchcjaomcdbmaaGreat.Abs Go.RowKit
def qIs (p:Prop) (l:Nat) (q:List Ms):Prop:=(p∧ ∃m,q=[m]∧m.line=(l:Nat))∨(¬p∧q=[])
def no (_:Nat):Prop:=False
structure Sys.Qs (S:Sys) (l:Nat) (U X Y:Nat→Prop):Prop where
 nd: ∀(j:Nat) N,S.nodes[j]? =some N→qIs (U j) l N.up∧qIs (X j) l N.dn∧qIs (Y j) l N.ans
 oth: ∀(l':Nat) E,S.dir[l']? =some E→l'≠l→E.busy=0
structure Sys.calm (S:Sys):Prop where
 nd: ∀(j:Nat) N,S.nodes[j]? =some N→N.up=[]∧N.dn=[]∧N.ans=[]
 bz: ∀(l:Nat) E,S.dir[l]? =some E→E.busy=0
structure Sys.P0 (S:Sys) (l i:Nat):Prop where
 qs:S.Qs l (· =i) no no
 bz: ∀E,S.dir[l]? =some E→E.busy=0
 lt:i<S.nodes.length
structure Sys.P1 (S:Sys) (l:Nat) (X Y:Nat→Prop):Prop where
 qs:S.Qs l no X Y
 xy: ∀j,X j→ ¬Y j
 lt: ∀j,X j∨Y j→j<S.nodes.length
 e: ∃E,S.dir[l]? =some E∧E.busy≠0∧nz E.wait=true∧(∀j,X j∨Y j→Zt E.wait (j:Nat)=true)∧ ∀i,Zt E.wait i=true→ ∃j:Nat,i=(j:Nat)∧(X j∨Y j)
structure Sys.P2 (S:Sys) (l:Nat):Prop where
 qs:S.Qs l no no no
 e: ∃E,S.dir[l]? =some E∧(E.busy=4∨E.busy=5)∧nz E.wait=false
structure Sys.P3 (S:Sys) (l i:Nat):Prop where
 qs:S.Qs l no (· =i) no
 bz: ∀E,S.dir[l]? =some E→E.busy=0
 lt:i<S.nodes.length
section
variable {S:Sys} {q k l:Nat} {Vs:Nat→Ln} {U X Y:Nat→Prop}
theorem qIs.nil {p:Prop} {q:List Ms} (h:qIs p l q) (hp: ¬p):q=[]:=by
 rcases h with ⟨a,_⟩|⟨_,a⟩
 ·exact absurd a hp
 ·exact a
theorem qIs.one {p:Prop} {q:List Ms} (h:qIs p l q) (hp:p): ∃m,q=[m]∧m.line=(l:Nat):=by
 rcases h with ⟨_,a⟩|⟨a,_⟩
 ·exact a
 ·exact absurd hp a
theorem qIs.len {p:Prop} {q:List Ms} (h:qIs p l q):q.length≤1:=by
 rcases h with ⟨_,m,a,_⟩|⟨_,a⟩<;>rw [a]<;>simp
theorem qIs.iff {p p':Prop} {q:List Ms} (h:qIs p l q) (e:p'↔p):qIs p' l q:=by rw [propext e];exact h
theorem qIs.no {p:Prop} (h: ¬p):qIs p l []:= .inr ⟨h,rfl⟩
theorem qIs.yes {p:Prop} (h:p) {m:Ms} (e:m.line=(l:Nat)):qIs p l [m]:= .inl ⟨h,m,rfl,e⟩
theorem Sys.Qs.small (h:S.Qs l U X Y) (p:S.pr q k Vs):S.pr 1 k Vs:=⟨p.wf,fun i N hN=>by
 obtain ⟨a,b,c⟩:=h.nd i N hN
 exact ⟨⟨a.len,c.len,b.len⟩,(p.qu i N hN).up,(p.qu i N hN).ans,(p.qu i N hN).dn⟩,p.line⟩
theorem Sys.calm.qs (h:S.calm) (l:Nat):S.Qs l no no no:=⟨fun j N hN=>by
 obtain ⟨a,b,c⟩:=h.nd j N hN
 rw [a,b,c]
 exact ⟨.no id,.no id,.no id⟩,fun l' E hE _=>h.bz l' E hE⟩
theorem Sys.Qs.calm (h:S.Qs l no no no) (hb: ∀E,S.dir[l]? =some E→E.busy=0):S.calm:=⟨fun j N hN=>by
 obtain ⟨a,b,c⟩:=h.nd j N hN
 exact ⟨a.nil id,b.nil id,c.nil id⟩,fun l' E hE=>by
 by_cases e:l'=l
 ·subst e;exact hb E hE
 ·exact h.oth l' E hE e⟩
theorem XfN {i:Nat} (h: ∀N,S.nodes[i]? =some N→N.up=[]):(S.up (i:Nat)).1=S:=by
 unfold Sys.up
 split
 ·rfl
 ·rename_i j N ha
  obtain ⟨hc,hN⟩:=Sys.at_some ha
  obtain rfl:i=j:=by omega
  rw [h N hN]
theorem Zcs {i:Nat} (h: ∀N,S.nodes[i]? =some N→N.ans=[]):(S.answer (i:Nat)).1=S:=by
 unfold Sys.answer
 split
 ·rfl
 ·rename_i j N ha
  obtain ⟨hc,hN⟩:=Sys.at_some ha
  obtain rfl:i=j:=by omega
  rw [h N hN]
theorem Jbr {i:Nat} (h: ∀N,S.nodes[i]? =some N→N.dn=[]):(S.hear (i:Nat)).1=S:=by
 unfold Sys.hear
 split
 ·rfl
 ·rename_i j N ha
  obtain ⟨hc,hN⟩:=Sys.at_some ha
  obtain rfl:i=j:=by omega
  rw [h N hN]
theorem Qea {i:Nat} (h: ∀E,S.dir[i]? =some E→Qaa E=false):(S.push (i:Nat)).1=S:=by
 unfold Sys.push
 split
 ·rfl
 ·rename_i j E he
  obtain ⟨hl,hi⟩:=Sys.ent_some he
  obtain rfl:i=j:=by omega
  rw [if_pos (h E hi)]
theorem Jfh (h:S.q=[]) (line:Int):(S.drain line).1=S:=by
 unfold Sys.drain
 split
 ·rfl
 ·cases S with
  | mk c nodes dir q D=>simp only at h;subst h;rfl
theorem Qa0 {E:Ent} (h:E.busy=0):Qaa E=false:=by unfold Qaa;rw [h];simp
theorem Qf2 {E:Ent} (h:nz E.wait=true):Qaa E=false:=by unfold Qaa;rw [h];simp
theorem Sys.pr.at (h:S.pr q k Vs) {j:Nat} {N:Nd} (hN:S.nodes[j]? =some N) {l:Nat} {E:Ent} (hE:S.dir[l]? =some E):
  CV E (Vs l) (j:Nat) (N.A.slot (l:Nat)).state (N.A.slot (l:Nat)).data (upV (l:Nat) N.up) (dnV (l:Nat) N.dn) (anV (l:Nat) N.ans):=by
 have hj:((j:Nat):Int)<S.c.cores:=by have:=Qd hN;have:=h.wf.nodes;omega
 have c:=(h.line l E hE).cv (j:Nat) (by omega) hj
 unfold Sys.sV Sys.dV Sys.uV Sys.nV Sys.aV at c
 rw [Xal hN] at c
 exact c
theorem ZdQ {m:Ms} (h:m.line=(l:Nat)) (h14:m.kind≠14):dnV (l:Nat) [m]=[m]:=by rw [Jbo,if_pos ⟨h,h14⟩];rfl
theorem JfV {m:Ms} (h:m.line=(l:Nat)):anV (l:Nat) [m]=[m]:=by rw [Xdk,if_pos h];rfl
theorem JcW (p:S.pr q k Vs) (hk:k<100000) {j:Nat} {N:Nd} (hN:S.nodes[j]? =some N) {E:Ent} (hE:S.dir[l]? =some E) {m:Ms} (hd:N.dn=[m]) (ha:N.ans=[]) (hm:m.line=(l:Nat)) (hw:Zt E.wait (j:Nat)=true):
  (∃y,(N.A.hear m).1=[y]∧y.line=(l:Nat)∧Xy y=true)∧(m.kind=12∨m.kind=13)∧((N.A.hear m).2.1.slot (l:Nat)).state=turn m.kind (N.A.slot (l:Nat)).state∧turn m.kind (N.A.slot (l:Nat)).state≠ -1:=by
 have c:=p.at hN hE
 rw [hd,ha] at c
 have h14:m.kind≠14:=by
  intro e
  rw [Jbo,if_neg (fun a=>a.2 e)] at c
  generalize he:dnV ((l:Nat):Int) []=L at c
  generalize hA:anV ((l:Nat):Int) []=A at c
  cases c with
  | rest w b=>rw [hw] at w;cases w
  | asked w nn nm b x=>simp [dnV] at he
  | acked w nn nm a k x=>simp [anV] at hA
 rw [ZdQ hm h14] at c
 have c2:=c
 generalize hL:[m]=L at c
 generalize hA:anV ((l:Nat):Int) []=A at c
 cases c with
 | rest w b=>rw [hw] at w;cases w
 | acked w nn nm a k x=>simp [anV] at hA
 | asked w nn nm b x=>
  rename_i Dn0 y
  have e:Dn0=[]∧m=y:=by
   cases Dn0 with
   | nil=>simpa using hL
   | cons a t=>simp at hL
  obtain ⟨rfl,rfl⟩:=e
  have hn:=p.wf.nd j N hN
  obtain ⟨hg,ht⟩:=(p.qu j N hN).dn m (by rw [hd];simp)
  have hml:0≤m.line∧m.line<S.c.lines:=hn.dn.2 m (by rw [hd];simp)
  have hlines:=p.wf.c.lines
  rw [←hm] at c2 ⊢
  have H:=JdW (sl:=N.A.slot m.line) c2
  obtain ⟨p1,p2,p3,p4,p5,p6,p7,p8⟩:=H
  obtain ⟨q1,q2,q3,q4,q5⟩:=(JaA hn.gd.ok hn.gd.wf (by have:=hn.gd.used;omega) hg ht).2 _ rfl p6 p5 p4
  have G:=Qeb (m:=m) (s:=N.A.slot m.line) (t:=turn m.kind (N.A.slot m.line).state) ⟨hml.1,by omega⟩
  have hk12:m.kind=12∨m.kind=13:=by rcases x with ⟨a,_⟩|⟨a,_⟩;exact .inl a;exact .inr a
  obtain ⟨y,hy⟩: ∃y,Jbc m (N.A.slot m.line) (turn m.kind (N.A.slot m.line).state)=[y]:=by
   unfold Jbc
   rcases hk12 with a|a
   ·rw [if_pos a];exact ⟨_,rfl⟩
   ·rw [if_neg (by omega),if_pos a];exact ⟨_,rfl⟩
  have g:=G y (by rw [hy];simp)
  exact ⟨⟨y,q1.trans hy,g.2.2,g.1⟩,hk12,q4,p1⟩
theorem XeZ {E:Ent} {V:Ln} {i s:Int} {d:Ln} {U:List Ms} {m:Ms} (h:Base E V i s d U [m]):m.kind=8∨m.kind=9∨m.kind=10∨m.kind=11:=by
 generalize hL:[m]=L at h
 cases h<;>first|(cases hL;done)|(cases hL;omega)
theorem Xe8 (p:S.pr q k Vs) (hk:k<100000) {j:Nat} {N:Nd} (hN:S.nodes[j]? =some N) {E:Ent} (hE:S.dir[l]? =some E) {m:Ms} (hd:N.dn=[m]) (ha:N.ans=[]) (hm:m.line=(l:Nat)) (hb:E.busy=0):
  (N.A.hear m).1=[]:=by
 have hn:=p.wf.nd j N hN
 obtain ⟨hg,ht⟩:=(p.qu j N hN).dn m (by rw [hd];simp)
 have hs:=JaA hn.gd.ok hn.gd.wf (by have:=hn.gd.used;omega) hg ht
 by_cases h14:m.kind=14
 ·rw [hs.1 h14]
 ·have c:=p.at hN hE
  rw [hd,ZdQ hm h14] at c
  obtain ⟨_,b,_⟩:=Xah c hb
  have bk:=XeZ b
  rw [←hm] at c
  obtain ⟨p1,p2,p3,p4,p5,p6,p7,p8⟩:=JdW (sl:=N.A.slot m.line) c
  rw [(hs.2 _ rfl p6 p5 p4).1]
  exact XaQ (by omega) (by omega)
theorem XcY {i:Nat} {a N:Nd} (h:S.nodes[i]? =some N) {j:Nat} {M:Nd} (hM:(S.setN i a).nodes[j]? =some M):(j=i∧M=a)∨(j≠i∧S.nodes[j]? =some M):=by
 by_cases e:j=i
 ·subst e
  rw [Xt h] at hM;cases hM
  exact .inl ⟨rfl,rfl⟩
 ·simp only [Sys.setN] at hM
  rw [List.getElem?_set_ne (fun a=>e a.symm)] at hM
  exact .inr ⟨e,hM⟩
theorem Sys.Qs.setN (h:S.Qs l U X Y) {j:Nat} {N N':Nd} {U' X' Y':Nat→Prop} (hN:S.nodes[j]? =some N) (hj:qIs (U' j) l N'.up∧qIs (X' j) l N'.dn∧qIs (Y' j) l N'.ans)
  (ho: ∀i,i≠j→(U' i↔U i)∧(X' i↔X i)∧(Y' i↔Y i)):(S.setN j N').Qs l U' X' Y':=by
 refine ⟨fun i M hM=> ?_,h.oth⟩
 rcases XcY hN hM with ⟨rfl,rfl⟩|⟨hne,hM⟩
 ·exact hj
 ·obtain ⟨a,b,c⟩:=h.nd i M hM
  obtain ⟨x,y,z⟩:=ho i hne
  exact ⟨a.iff x,b.iff y,c.iff z⟩
theorem Sys.Qs.setE (h:S.Qs l U X Y) (E:Ent):(S.setE l E).Qs l U X Y:=by
 refine ⟨h.nd,fun l' E' hE hne=>h.oth l' E' ?_ hne⟩
 have hE':(S.dir.set l E)[l']? =some E':=hE
 rw [List.getElem?_set_ne (fun a=>hne a.symm)] at hE'
 exact hE'
theorem Sys.Qs.sends (h:S.Qs l U X Y) {out:List Snd} {Z:Nat→Prop} (ho: ∀j,Z j→ ∃m,Qu (j:Nat) out=[m]∧Xy (QI (l:Nat) m)=true) (hz: ∀j,¬Z j→Qu (j:Nat) out=[]) (hd: ∀j,Z j→ ¬X j):
  (S.sends (l:Nat) out).Qs l U (fun j=>X j∨Z j) Y:=by
 obtain ⟨r1,r2,r3,r4⟩:=ZB (l:Nat) out S
 refine ⟨fun j M hM=> ?_,fun l' E hE=>h.oth l' E (by rw [r1] at hE;exact hE)⟩
 rw [Jaj] at hM
 cases hN:S.nodes[j]? with
 | none=>rw [hN] at hM;cases hM
 | some N=>
  rw [hN,Option.map_some] at hM
  cases hM
  obtain ⟨a,b,c⟩:=h.nd j N hN
  refine ⟨a,?_,c⟩
  show qIs (X j∨Z j) l (Xg N.dn ((Qu (j:Nat) out).map (QI (l:Nat))))
  by_cases z:Z j
  ·obtain ⟨m,e,g⟩:=ho j z
   rw [e,b.nil (hd j z)]
   show qIs _ l (Qab [] (QI (l:Nat) m)).1
   rw [Zay g (by simp)]
   exact .yes (.inr z) rfl
  ·rw [hz j z]
   exact b.iff ⟨fun a=>a.elim id (fun b=>absurd b z),.inl⟩
end
end Go.Proofs.YtmchcjaomcdbmaaGreat.Gen
