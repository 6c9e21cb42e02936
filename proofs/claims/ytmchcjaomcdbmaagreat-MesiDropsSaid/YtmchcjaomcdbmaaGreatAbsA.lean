import Derived.Below
import Derived.IntWalk
import Derived.Laws.AppendOwn
import Derived.Laws.Pointers
import Derived.Laws.Slices
import Derived.Laws.Strings
import Derived.Laws.StructEq
import Derived.Laws.Tables
import Derived.MapKept
import Derived.Maps.RangeRun
import Derived.Orders
import Derived.Tactics
/- A machine of blocks and values, sound for the model's runs: values, heaps, operations. -/
set_option linter.all false
set_option linter.deprecated false
namespace Go.Proofs.YtmchcjaomcdbmaaGreat.Abs
open Go Go.RowKit
structure Pl where
 b:Nat
 s:Nat
 K:Nat
 z:Nat
abbrev Mu:=Nat→Option Pl
def LC:Nat:=4611686018427387904
inductive VR (μ:Mu):Value→Value→Prop
 | bool (b:Bool):VR μ (.bool b) (.bool b)
 | int (k:IntKind) (n:Int):VR μ (.int k n) (.int k n)
 | float (k:FloatKind) (n:Nat):VR μ (.float k n) (.float k n)
 | complex (k:FloatKind) (x y:Nat):VR μ (.complex k x y) (.complex k x y)
 | string (s:ByteArray):VR μ (.string s) (.string s)
 | nilptr:VR μ (.pointer none) (.pointer none)
 | nilslice:VR μ (.slice none 0 0) (.slice none 0 0)
 | nilmap:VR μ (.map none) (.map none)
 | nilchan:VR μ (.chan none) (.chan none)
 | nilFunc:VR μ .nilFunc .nilFunc
 | nilIface:VR μ .nilIface .nilIface
 | ptr {l:Nat} {m:Pl} (o:Nat):μ l=some m→VR μ (.pointer (some ⟨l,o,none⟩)) (.pointer (some ⟨m.b,m.s+o,none⟩))
 | slx {l:Nat} {m:Pl} (o n c:Nat) (a':Addr):c<LC→n≤c→μ l=some m→(a'=⟨m.b,m.s+o,none⟩∨c=0)→VR μ (.slice (some ⟨l,o,none⟩) n c) (.slice (some a') n c)
 | sll {l:Nat} {m:Pl} (o j n c o':Nat):μ l=some m→o=j*m.z→j+c=m.K→n≤c→(o'=m.s+o∨c=0)→
   VR μ (.slice (some ⟨l,o,none⟩) n (LC+m.z)) (.slice (some ⟨m.b,o',none⟩) n c)
 | map {l:Nat} {m:Pl}:μ l=some m→VR μ (.map (some l)) (.map (some m.b))
 | func (fn:Fn) {xs ys us vs:Array Value}:xs.size=us.size→ys.size=vs.size→(∀(i:Nat) (x u:Value),xs[i]? =some x→us[i]? =some u→VR μ x u)→
   (∀(i:Nat) (y v:Value),ys[i]? =some y→vs[i]? =some v→VR μ y v)→VR μ (.func fn xs ys) (.func fn us vs)
 | iface (t:TypeId) {x y:Value}:VR μ x y→VR μ (.iface t x) (.iface t y)
 | agg {xs ys:Array Value}:xs.size=ys.size→(∀(i:Nat) (x y:Value),xs[i]? =some x→ys[i]? =some y→VR μ x y)→VR μ (.agg xs) (.agg ys)
 | tuple {xs ys:Array Value}:xs.size=ys.size→(∀(i:Nat) (x y:Value),xs[i]? =some x→ys[i]? =some y→VR μ x y)→VR μ (.tuple xs) (.tuple ys)
def Ext (μ μ':Mu):Prop:= ∀l m,μ l=some m→μ' l=some m
theorem Ext.refl (μ:Mu):Ext μ μ:=fun _ _ h=>h
theorem Ext.trans {a b c:Mu} (h:Ext a b) (k:Ext b c):Ext a c:=fun l m e=>k l m (h l m e)
theorem VR.ext {μ μ':Mu} (hx:Ext μ μ') {v v':Value} (h:VR μ v v'):VR μ' v v':=by
 induction h with
 | bool b=>exact .bool b
 | int k n=>exact .int k n
 | float k n=>exact .float k n
 | complex k x y=>exact .complex k x y
 | string s=>exact .string s
 | nilptr=>exact .nilptr
 | nilslice=>exact .nilslice
 | nilmap=>exact .nilmap
 | nilchan=>exact .nilchan
 | nilFunc=>exact .nilFunc
 | nilIface=>exact .nilIface
 | ptr o h=>exact .ptr o (hx _ _ h)
 | slx o n c o' hc hn h h2=>exact .slx o n c o' hc hn (hx _ _ h) h2
 | sll o j n c o' h h1 h2 h3 h4=>exact .sll o j n c o' (hx _ _ h) h1 h2 h3 h4
 | map h=>exact .map (hx _ _ h)
 | func fn h1 h2 _ _ i1 i2=>exact .func fn h1 h2 i1 i2
 | iface t _ ih=>exact .iface t ih
 | agg h1 _ ih=>exact .agg h1 ih
 | tuple h1 _ ih=>exact .tuple h1 ih
inductive VRs (μ:Mu):List Value→List Value→Prop
 | nil:VRs μ [] []
 | cons {x y:Value} {xs ys:List Value}:VR μ x y→VRs μ xs ys→VRs μ (x::xs) (y::ys)
theorem VRs.ext {μ μ':Mu} (hx:Ext μ μ') {xs ys:List Value} (h:VRs μ xs ys):VRs μ' xs ys:=by
 induction h with
 | nil=>exact .nil
 | cons a _ ih=>exact .cons (a.ext hx) ih
theorem VRs.length {μ:Mu} {xs ys:List Value} (h:VRs μ xs ys):xs.length=ys.length:=by
 induction h with
 | nil=>rfl
 | cons _ _ ih=>simp [ih]
theorem VRs.get {μ:Mu} {xs ys:List Value} (h:VRs μ xs ys): ∀(i:Nat) (x:Value),xs[i]? =some x→ ∃y,ys[i]? =some y∧VR μ x y:=by
 induction h with
 | nil=>intro i x h;simp at h
 | cons a _ ih=>
  intro i x hx
  cases i with
  | zero=>simp at hx;subst hx;exact ⟨_,rfl,a⟩
  | succ i=>simpa using ih i x (by simpa using hx)
theorem VRs.of_get {μ:Mu}: ∀{xs ys:List Value},xs.length=ys.length→(∀(i:Nat) (x y:Value),xs[i]? =some x→ys[i]? =some y→VR μ x y)→VRs μ xs ys
 | [],[],_,_=> .nil
 | x::xs,y::ys,hl,h=> .cons (h 0 x y rfl rfl) (VRs.of_get (by simpa using hl) fun i a b ha hb=>h (i+1) a b (by simpa using ha) (by simpa using hb))
 | [],_::_,hl,_=>by simp at hl
 | _::_,[],hl,_=>by simp at hl
theorem VRs.append {μ:Mu} {a b c d:List Value} (h:VRs μ a b) (k:VRs μ c d):VRs μ (a++c) (b++d):=by
 induction h with
 | nil=>exact k
 | cons x _ ih=>exact .cons x ih
theorem VRs.take {μ:Mu} {a b:List Value} (h:VRs μ a b): ∀n,VRs μ (a.take n) (b.take n):=by
 induction h with
 | nil=>intro n;simpa using VRs.of_get (μ:=μ) (xs:=[]) (ys:=[]) rfl (by simp)
 | cons x _ ih=>intro n;cases n with
  | zero=>exact .nil
  | succ n=>exact .cons x (ih n)
theorem VRs.drop {μ:Mu} {a b:List Value} (h:VRs μ a b): ∀n,VRs μ (a.drop n) (b.drop n):=by
 induction h with
 | nil=>intro n;simpa using VRs.of_get (μ:=μ) (xs:=[]) (ys:=[]) rfl (by simp)
 | cons x t ih=>intro n;cases n with
  | zero=>exact .cons x t
  | succ n=>exact ih n
theorem VRs.agg {μ:Mu} {xs ys:List Value} (h:VRs μ xs ys):VR μ (.agg xs.toArray) (.agg ys.toArray):=
 .agg (by simpa using h.length) fun i x y hx hy=>by
  obtain ⟨z,hz,hr⟩:=h.get i x (by simpa using hx)
  have hy':ys[i]? =some y:=by simpa using hy
  rw [hz] at hy';cases hy';exact hr
theorem VR.agg_inv {μ:Mu} {xs:Array Value} {v:Value} (h:VR μ (.agg xs) v): ∃ys:Array Value,v= .agg ys∧VRs μ xs.toList ys.toList:=by
 cases h with
 | @agg _ ys hs hr=>exact ⟨ys,rfl,VRs.of_get (by simpa using hs) fun i x y hx hy=>hr i x y (by simpa using hx) (by simpa using hy)⟩
def isCell:Value→Bool
 | .agg _| .tuple _=>false
 | _=>true
theorem VR.isCell {μ:Mu} {v v':Value} (h:VR μ v v'):isCell v'=isCell v:=by cases h<;>rfl
theorem VR.cells {μ:Mu} {v v':Value} (h:VR μ v v'):VRs μ v.cells.toList v'.cells.toList:=by
 cases h with
 | agg h1 h2=>exact VRs.of_get (by simpa [Value.cells] using h1) fun i x y hx hy=>h2 i x y (by simpa [Value.cells] using hx) (by simpa [Value.cells] using hy)
 | bool b=>exact .cons (.bool b) .nil
 | int k n=>exact .cons (.int k n) .nil
 | float k n=>exact .cons (.float k n) .nil
 | complex k x y=>exact .cons (.complex k x y) .nil
 | string s=>exact .cons (.string s) .nil
 | nilptr=>exact .cons .nilptr .nil
 | nilslice=>exact .cons .nilslice .nil
 | nilmap=>exact .cons .nilmap .nil
 | nilchan=>exact .cons .nilchan .nil
 | nilFunc=>exact .cons .nilFunc .nil
 | nilIface=>exact .cons .nilIface .nil
 | ptr o h=>exact .cons (.ptr o h) .nil
 | slx o n c o' hc hn h h2=>exact .cons (.slx o n c o' hc hn h h2) .nil
 | sll o j n c o' h h1 h2 h3 h4=>exact .cons (.sll o j n c o' h h1 h2 h3 h4) .nil
 | map h=>exact .cons (.map h) .nil
 | func fn h1 h2 h3 h4=>exact .cons (.func fn h1 h2 h3 h4) .nil
 | iface t h=>exact .cons (.iface t h) .nil
 | tuple h1 h2=>exact .cons (.tuple h1 h2) .nil
def plain:Nat→Value→Bool
 | _,.bool _|_,.int _ _|_,.string _|_,.pointer none|_,.map none|_,.nilFunc|_,.nilIface=>true
 | _,.slice none n c=>n==0&&c==0
 | d+1,.agg xs=>xs.toList.all (plain d)
 | d+1,.tuple xs=>xs.toList.all (plain d)
 | _,.func _ xs ys=>xs.size==0&&ys.size==0
 | _,_=>false
theorem Zau (μ:Mu): ∀(d:Nat) (v:Value),plain d v=true→VR μ v v:=by
 intro d
 induction d with
 | zero=>
  intro v h
  cases v with
  | bool b=>exact .bool b
  | int k n=>exact .int k n
  | string s=>exact .string s
  | pointer a=>cases a with
   | none=>exact .nilptr
   | some a=>simp [plain] at h
  | slice a n c=>cases a with
   | none=>simp [plain] at h;obtain ⟨rfl,rfl⟩:=h;exact .nilslice
   | some a=>simp [plain] at h
  | map r=>cases r with
   | none=>exact .nilmap
   | some r=>simp [plain] at h
  | nilFunc=>exact .nilFunc
  | nilIface=>exact .nilIface
  | func fn xs ys=>
   simp [plain] at h
   exact .func fn rfl rfl (by intro i x u hx;simp [h.1] at hx) (by intro i x u hx;simp [h.2] at hx)
  | _=>simp [plain] at h
 | succ d ih=>
  intro v h
  cases v with
  | bool b=>exact .bool b
  | int k n=>exact .int k n
  | string s=>exact .string s
  | pointer a=>cases a with
   | none=>exact .nilptr
   | some a=>simp [plain] at h
  | slice a n c=>cases a with
   | none=>simp [plain] at h;obtain ⟨rfl,rfl⟩:=h;exact .nilslice
   | some a=>simp [plain] at h
  | map r=>cases r with
   | none=>exact .nilmap
   | some r=>simp [plain] at h
  | nilFunc=>exact .nilFunc
  | nilIface=>exact .nilIface
  | func fn xs ys=>
   simp [plain] at h
   exact .func fn rfl rfl (by intro i x u hx;simp [h.1] at hx) (by intro i x u hx;simp [h.2] at hx)
  | agg xs=>
   refine .agg rfl fun i x y hx hy=> ?_
   rw [hx] at hy;cases hy
   simp only [plain,List.all_eq_true] at h
   exact ih x (h x (by simpa using Array.mem_of_getElem? hx))
  | tuple xs=>
   refine .tuple rfl fun i x y hx hy=> ?_
   rw [hx] at hy;cases hy
   simp only [plain,List.all_eq_true] at h
   exact ih x (h x (by simpa using Array.mem_of_getElem? hx))
  | _=>simp [plain] at h
theorem QeV {xs ys:Array Value} (hs:xs.size=ys.size) (h: ∀(i:Nat) (x y:Value),xs[i]? =some x→ys[i]? =some y→y=x):ys=xs:=by
 apply Array.ext hs.symm
 intro i h1 h2
 exact h i xs[i] ys[i] (by simp [h2]) (by simp [h1])
theorem ZbR {μ:Mu} {v v':Value} (hr:VR μ v v'): ∀(d:Nat),plain d v=true→v'=v:=by
 induction hr with
 | ptr o h=>intro d hp;cases d<;>simp [plain] at hp
 | slx o n c o' hc hn h h2=>intro d hp;cases d<;>simp [plain] at hp
 | sll o j n c o' h h1 h2 h3 h4=>intro d hp;cases d<;>simp [plain] at hp
 | map h=>intro d hp;cases d<;>simp [plain] at hp
 | func fn h1 h2 _ _ _ _=>
  intro d hp
  have: ∀a b:Array Value,a.size=b.size→a.size=0→b=a:=fun a b e z=>by
   have:b.size=0:=by omega
   rw [Array.size_eq_zero_iff.1 z,Array.size_eq_zero_iff.1 this]
  cases d<;>simp [plain] at hp<;>rw [this _ _ h1 (by simp [hp.1]),this _ _ h2 (by simp [hp.2])]
 | iface t _ _=>intro d hp;cases d<;>simp [plain] at hp
 | agg h1 _ ih=>
  intro d hp
  cases d with
  | zero=>simp [plain] at hp
  | succ d=>
   simp only [plain,List.all_eq_true] at hp
   rw [QeV h1 fun i x y hx hy=>ih i x y hx hy d (hp x (by simpa using Array.mem_of_getElem? hx))]
 | tuple h1 _ ih=>
  intro d hp
  cases d with
  | zero=>simp [plain] at hp
  | succ d=>
   simp only [plain,List.all_eq_true] at hp
   rw [QeV h1 fun i x y hx hy=>ih i x y hx hy d (hp x (by simpa using Array.mem_of_getElem? hx))]
 | _=>intros;rfl
end Go.Proofs.YtmchcjaomcdbmaaGreat.Abs
namespace Go.Proofs.YtmchcjaomcdbmaaGreat.Abs
open Go Go.RowKit
inductive BK where
 | ro
 | exact
 | loose (z:Nat)
inductive Blk where
 | cells (cs:List Value) (k:BK)
 | map (es:List (Value×Value))
 | iter (m cnt:Nat) (seen:List Nat)
def Blk.rw:Blk→Bool
 | .cells _ .ro=>false
 | _=>true
abbrev G:=Nat→Option Blk
def upd {α:Type} (g:Nat→α) (l:Nat) (b:α):Nat→α:=fun i=>if i=l then b else g i
theorem Xa {α:Type} (g:Nat→α) (l:Nat) (b:α):upd g l b l=b:=by simp [upd]
theorem Xc {α:Type} (g:Nat→α) {l i:Nat} (b:α) (h:i≠l):upd g l b i=g i:=by simp [upd,h]
def BlkOk (μ:Mu) (b:Blk) (m:Pl) (w:World) (B:Nat):Prop:=
 match b with
 | .cells cs k=> ∃cells elem fz,w.heap[m.b]? =some (.cells cells elem fz)∧
   (∀(i:Nat) (v:Value),cs[i]? =some v→ ∃v',cells[m.s+i]? =some v'∧VR μ v v')∧
   (match k with
    | .ro=>m.b<B
    | .exact=>B≤m.b∧fz=(0,0)
    | .loose z=>B≤m.b∧fz=(0,0)∧z=m.z∧m.s+m.K*z≤cells.size∧cs.length≤m.K*z)
 | .map es=> ∃entries,w.heap[m.b]? =some (.map entries es.length)∧B≤m.b∧entries.size=es.length∧(∀(i:Nat) (e:MapEntry),entries[i]? =some e→e.born=i)∧
   (∀(i:Nat) (kv:Value×Value),es[i]? =some kv→ ∃e:MapEntry,entries[i]? =some e∧plain 3 kv.1=true∧e.key=kv.1∧VR μ kv.2 e.val)
 | .iter l cnt seen=> ∃mm,μ l=some mm∧m.s=0∧B≤m.b∧w.heap[m.b]? =some (.mapIter (some mm.b) cnt seen.toArray cnt)
structure Sim (μ:Mu) (g:G) (n:Nat) (w:World) (B:Nat):Prop where
 dom: ∀l m,μ l=some m→l<n
 gdom: ∀l,n≤l→g l=none
 live: ∀l b m,g l=some b→μ l=some m→BlkOk μ b m w B
 inj: ∀l l' b b' m m',g l=some b→g l'=some b'→b.rw=true→b'.rw=true→μ l=some m→μ l'=some m'→m.b=m'.b→l=l'
 base:B≤w.heap.size
theorem BlkOk.rw_ge {μ:Mu} {b:Blk} {m:Pl} {w:World} {B:Nat} (h:BlkOk μ b m w B) (hr:b.rw=true):B≤m.b:=by
 cases b with
 | cells cs k=>
  obtain ⟨cells,elem,fz,_,_,hk⟩:=h
  cases k with
  | ro=>simp [Blk.rw] at hr
  | exact=>exact hk.1
  | loose z=>exact hk.1
 | map es=>obtain ⟨_,_,h,_⟩:=h;exact h
 | iter l c sn=>obtain ⟨_,_,_,h,_⟩:=h;exact h
theorem BlkOk.lt {μ:Mu} {b:Blk} {m:Pl} {w:World} {B:Nat} (h:BlkOk μ b m w B):m.b<w.heap.size:=by
 have: ∃x,w.heap[m.b]? =some x:=by
  cases b with
  | cells cs k=>obtain ⟨cells,elem,fz,h,_⟩:=h;exact ⟨_,h⟩
  | map es=>obtain ⟨_,h,_⟩:=h;exact ⟨_,h⟩
  | iter l c sn=>obtain ⟨_,_,_,_,h⟩:=h;exact ⟨_,h⟩
 obtain ⟨x,hx⟩:=this
 exact (Array.getElem?_eq_some_iff.1 hx).1
theorem BlkOk.mono {μ μ':Mu} {b:Blk} {m:Pl} {w w':World} {B:Nat} (h:BlkOk μ b m w B) (hx:Ext μ μ') (hw:w'.heap[m.b]? =w.heap[m.b]?):BlkOk μ' b m w' B:=by
 cases b with
 | cells cs k=>
  obtain ⟨cells,elem,fz,h1,h2,h3⟩:=h
  exact ⟨cells,elem,fz,hw.trans h1,fun i v hi=>let ⟨v',a,b⟩:=h2 i v hi;⟨v',a,b.ext hx⟩,h3⟩
 | map es=>
  obtain ⟨en,h1,h2,h3,h5,h4⟩:=h
  exact ⟨en,hw.trans h1,h2,h3,h5,fun i kv hi=>let ⟨e,a,b,c,d⟩:=h4 i kv hi;⟨e,a,b,c,d.ext hx⟩⟩
 | iter l c sn=>
  obtain ⟨mm,h1,h2,h3,h4⟩:=h
  exact ⟨mm,hx _ _ h1,h2,h3,hw.trans h4⟩
def Sub (g' g:G):Prop:= ∀l,g' l=none∨g' l=g l
theorem Sub.refl (g:G):Sub g g:=fun _=> .inr rfl
theorem Sub.trans {a b c:G} (h:Sub a b) (k:Sub b c):Sub a c:=fun l=>by
 rcases h l with h|h
 ·exact .inl h
 ·rcases k l with k|k
  ·exact .inl (h.trans k)
  ·exact .inr (h.trans k)
theorem Sub.upd_fresh {g' g:G} {l:Nat} (b:Option Blk) (h:Sub g' g) (hl:g' l=none):Sub g' (upd g l b):=fun i=>by
 by_cases e:i=l
 ·subst e;exact .inl hl
 ·rw [Xc _ _ e];exact h i
theorem Sub.upd {g' g:G} (l:Nat) (b:Option Blk) (h:Sub g' g):Sub (upd g' l b) (upd g l b):=fun i=>by
 by_cases e:i=l
 ·subst e;simp [Abs.upd]
 ·rw [Xc _ _ e,Xc _ _ e];exact h i
theorem Sim.sub {μ:Mu} {g g':G} {n:Nat} {w:World} {B:Nat} (h:Sim μ g n w B) (hs:Sub g' g):Sim μ g' n w B:=by
 have up: ∀l b,g' l=some b→g l=some b:=fun l b e=>by rcases hs l with h|h<;>simp_all
 exact ⟨h.dom,fun l hl=>(hs l).elim id (fun k=>k.trans (h.gdom l hl)),fun l b m e=>h.live l b m (up _ _ e),
  fun l l' b b' m m' e e'=>h.inj l l' b b' m m' (up _ _ e) (up _ _ e'),h.base⟩
theorem Sim.next {μ:Mu} {g:G} {n n':Nat} {w:World} {B:Nat} (h:Sim μ g n w B) (hn:n≤n'):Sim μ g n' w B:=
 ⟨fun l m e=>Nat.lt_of_lt_of_le (h.dom l m e) hn,fun l hl=>h.gdom l (by omega),h.live,h.inj,h.base⟩
theorem Sim.drew {μ:Mu} {g:G} {n:Nat} {w:World} {B:Nat} (h:Sim μ g n w B):Sim μ g n w.drew B:=
 ⟨h.dom,h.gdom,fun l b m e f=>(h.live l b m e f).mono (Ext.refl μ) rfl,h.inj,h.base⟩
def Zbf (μ:Mu) (n:Nat) (m:Pl):Mu:=fun i=>if i=n then some m else μ i
theorem JaS (μ:Mu) (n:Nat) (m:Pl):Zbf μ n m n=some m:=by simp [Zbf]
theorem Sim.newExt {μ:Mu} {g:G} {n:Nat} {w:World} {B:Nat} (h:Sim μ g n w B) (m:Pl):Ext μ (Zbf μ n m):=fun l k e=>by
 have:=h.dom l k e
 simp [Zbf,show l≠n by omega,e]
theorem Sim.place {μ:Mu} {g:G} {n:Nat} {w w':World} {B:Nat} (h:Sim μ g n w B) {m:Pl} {b:Blk}
  (hB:B≤w'.heap.size) (hother: ∀l b' m',g l=some b'→μ l=some m'→m'.b≠m.b∧w'.heap[m'.b]? =w.heap[m'.b]?)
  (hb:BlkOk (Zbf μ n m) b m w' B):Sim (Zbf μ n m) (upd g n (some b)) (n+1) w' B:=by
 refine ⟨?_,?_,?_,?_,hB⟩
 ·intro l k e
  by_cases hl:l=n
  ·omega
  ·simp [Zbf,hl] at e;have:=h.dom l k e;omega
 ·intro l hl
  rw [Xc _ _ (by omega)]
  exact h.gdom l (by omega)
 ·intro l b' m' e f
  by_cases hl:l=n
  ·subst hl
   simp [upd] at e;simp [Zbf] at f;subst e;subst f;exact hb
  ·rw [Xc _ _ hl] at e
   have f':μ l=some m':=by simpa [Zbf,hl] using f
   exact (h.live l b' m' e f').mono (h.newExt m) (hother l b' m' e f').2
 ·intro l l' b1 b2 m1 m2 e e' r r' f f' hbb
  by_cases hl:l=n
  ·by_cases hl':l'=n
   ·omega
   ·subst hl
    rw [Xc _ _ hl'] at e'
    have f2:μ l'=some m2:=by simpa [Zbf,hl'] using f'
    simp [Zbf] at f;subst f
    exact absurd hbb.symm (hother l' b2 m2 e' f2).1
  ·have f1:μ l=some m1:=by simpa [Zbf,hl] using f
   rw [Xc _ _ hl] at e
   by_cases hl':l'=n
   ·subst hl'
    simp [Zbf] at f';subst f'
    exact absurd hbb (hother l b1 m1 e f1).1
   ·have f2:μ l'=some m2:=by simpa [Zbf,hl'] using f'
    rw [Xc _ _ hl'] at e'
    exact h.inj l l' b1 b2 m1 m2 e e' r r' f1 f2 hbb
theorem Sim.alloc {μ:Mu} {g:G} {n:Nat} {w:World} {B:Nat} (h:Sim μ g n w B) {cs ds es:List Value} (hr:VRs μ cs ds) (elem:TypeId) (K z:Nat) (k:BK)
  (hk:match k with| .ro=>False| .exact=>True| .loose z'=>z'=z∧K*z≤(ds++es).length∧cs.length≤K*z):
  Sim (Zbf μ n ⟨w.heap.size,0,K,z⟩) (upd g n (some (.cells cs k))) (n+1) (w.alloc (.cells (ds++es).toArray elem)) B:=by
 refine h.place (by simp;have:=h.base;omega) ?_ ?_
 ·intro l b' m' e f
  have hlt:=(h.live l b' m' e f).lt
  refine ⟨by simp;omega,?_⟩
  exact Below.heap_alloc _ _ _ hlt
 ·refine ⟨(ds++es).toArray,elem,(0,0),by show (w.heap.push _)[w.heap.size]? =_;simp,?_,?_⟩
  ·intro i v hi
   obtain ⟨v',hv',hrel⟩:=hr.get i v hi
   refine ⟨v',?_,hrel.ext (h.newExt _)⟩
   have:i<ds.length:=(List.getElem?_eq_some_iff.1 hv').1
   simp [List.getElem?_append_left this,hv']
  ·have hb:=h.base
   cases k with
   | ro=>exact hk.elim
   | exact=>exact ⟨hb,rfl⟩
   | loose z'=>obtain ⟨rfl,h1,h2⟩:=hk;exact ⟨hb,rfl,rfl,by simpa using h1,h2⟩
theorem Sim.load {μ:Mu} {g:G} {n:Nat} {w:World} {B:Nat} (h:Sim μ g n w B) {l o:Nat} {cs:List Value} {k:BK} {v:Value} {m:Pl}
  (hg:g l=some (.cells cs k)) (hm:μ l=some m) (hc:cs[o]? =some v): ∃v',w.cell? ⟨m.b,m.s+o,none⟩=some v'∧VR μ v v':=by
 obtain ⟨cells,elem,fz,h1,h2,_⟩:=h.live l _ m hg hm
 obtain ⟨v',hv,hr⟩:=h2 o v hc
 exact ⟨v',by simp [World.cell?,h1,hv],hr⟩
def BK.rw:BK→Bool
 | .ro=>false
 | _=>true
theorem Xdr (w:World) (a:Addr) (v:Value) (cells:Array Value) (elem:TypeId) (fz:Nat×Nat) (h:w.heap[a.block]? =some (.cells cells elem fz)) (hs:a.spot=none):
  (w.setCell a v).heap[a.block]? =some (.cells (cells.setIfInBounds a.off v) elem fz):=by
 simp only [World.setCell,Array.getElem?_modify,if_true,h,Option.map_some,hs]
 rfl
theorem Sim.store {μ:Mu} {g:G} {n:Nat} {w:World} {B:Nat} (h:Sim μ g n w B) {l o:Nat} {cs:List Value} {k:BK} {v v':Value} {m:Pl}
  (hg:g l=some (.cells cs k)) (hm:μ l=some m) (ho:o<cs.length) (hk:k.rw=true) (hr:VR μ v v'):
  (∃u,w.cell? ⟨m.b,m.s+o,none⟩=some u)∧w.frozen? ⟨m.b,m.s+o,none⟩=false∧
  Sim μ (upd g l (some (.cells (cs.set o v) k))) n (w.setCell ⟨m.b,m.s+o,none⟩ v') B∧Below B w (w.setCell ⟨m.b,m.s+o,none⟩ v'):=by
 have hb:=h.live l _ m hg hm
 have hlt:=hb.lt
 have hge:B≤m.b:=hb.rw_ge (by cases k<;>simp_all [Blk.rw,BK.rw])
 obtain ⟨cells,elem,fz,h1,h2,h3⟩:=hb
 have hfz:fz=(0,0):=by cases k with
  | ro=>simp [BK.rw] at hk
  | exact=>exact h3.2
  | loose z=>exact h3.2.1
 subst hfz
 obtain ⟨u,hu,_⟩:=h2 o cs[o] (by simp [ho])
 refine ⟨⟨u,by simp [World.cell?,h1,hu]⟩,by simp [World.frozen?,h1],?_,(Below.refl B w).setCell hge v'⟩
 have hlt:m.s+o<cells.size:=(Array.getElem?_eq_some_iff.1 hu).1
 have hnew:=Xdr w ⟨m.b,m.s+o,none⟩ v' cells elem (0,0) h1 rfl
 refine ⟨h.dom,?_,?_,?_,by simp [World.setCell];exact h.base⟩
 ·intro i hi
  have:i≠l:=fun e=>by subst e;rw [h.gdom i hi] at hg;cases hg
  rw [Xc _ _ this];exact h.gdom i hi
 ·intro i b' m' e f
  by_cases hi:i=l
  ·subst hi
   rw [hm] at f;cases f
   simp [upd] at e;subst e
   refine ⟨_,elem,(0,0),hnew,?_,?_⟩
   ·intro j x hj
    rw [List.getElem?_set] at hj
    by_cases hjo:o=j
    ·subst hjo
     simp [ho] at hj;subst hj
     exact ⟨v',by simp [hlt],hr⟩
    ·simp [hjo] at hj
     obtain ⟨x',hx',hxr⟩:=h2 j x hj
     refine ⟨x',?_,hxr⟩
     rw [Array.getElem?_setIfInBounds_ne (by simp;omega)];exact hx'
   ·cases k with
    | ro=>simp [BK.rw] at hk
    | exact=>exact h3
    | loose z=>simpa using h3
  ·rw [Xc _ _ hi] at e
   have hbi:=h.live i b' m' e f
   have hne:m'.b≠m.b:=by
    intro hbb
    cases hrb:b'.rw with
    | true=>exact hi (h.inj i l b' _ m' m e hg hrb (by cases k<;>simp_all [Blk.rw,BK.rw]) f hm hbb)
    | false=>
     cases b' with
     | map es=>simp [Blk.rw] at hrb
     | iter l c sn=>simp [Blk.rw] at hrb
     | cells cs' k'=>
      cases k' with
      | ro=>obtain ⟨_,_,_,_,_,hro⟩:=hbi;simp at hro;omega
      | exact=>simp [Blk.rw] at hrb
      | loose z=>simp [Blk.rw] at hrb
   exact hbi.mono (Ext.refl μ) (Below.heap_setCell _ _ _ _ (by simpa using hne))
 ·intro i i' b1 b2 m1 m2 e e' r r' f f' hbb
  have back: ∀(j:Nat) (b:Blk),upd g l (some (.cells (cs.set o v) k)) j=some b→b.rw=true→ ∃b0,g j=some b0∧b0.rw=true:=by
   intro j b hj hjr
   by_cases hjl:j=l
   ·subst hjl;exact ⟨_,hg,by cases k<;>simp_all [Blk.rw,BK.rw]⟩
   ·rw [Xc _ _ hjl] at hj;exact ⟨b,hj,hjr⟩
  obtain ⟨c1,k1,r1⟩:=back i b1 e r
  obtain ⟨c2,k2,r2⟩:=back i' b2 e' r'
  exact h.inj i i' c1 c2 m1 m2 k1 k2 r1 r2 f f' hbb
theorem Sim.setBlk {μ:Mu} {g:G} {n:Nat} {w w':World} {B:Nat} (h:Sim μ g n w B) {l:Nat} {b b2:Blk} {m:Pl} (hg:g l=some b) (hrw:b.rw=true) (hm:μ l=some m)
  (hw: ∀k,k≠m.b→w'.heap[k]? =w.heap[k]?) (hsz:w'.heap.size=w.heap.size) (hb2:BlkOk μ b2 m w' B):Sim μ (Abs.upd g l (some b2)) n w' B:=by
 have hge:=(h.live l b m hg hm).rw_ge hrw
 refine ⟨h.dom,?_,?_,?_,by rw [hsz];exact h.base⟩
 ·intro i hi
  have:i≠l:=fun e=>by subst e;rw [h.gdom i hi] at hg;cases hg
  rw [Xc _ _ this];exact h.gdom i hi
 ·intro i b' m' e f
  by_cases hi:i=l
  ·subst hi
   rw [hm] at f;cases f
   rw [Xa] at e;cases e;exact hb2
  ·rw [Xc _ _ hi] at e
   have hbi:=h.live i b' m' e f
   have hne:m'.b≠m.b:=by
    intro hbb
    cases hrb:b'.rw with
    | true=>exact hi (h.inj i l b' _ m' m e hg hrb hrw f hm hbb)
    | false=>
     cases b' with
     | map es=>simp [Blk.rw] at hrb
     | iter l c sn=>simp [Blk.rw] at hrb
     | cells cs' k'=>
      cases k' with
      | ro=>obtain ⟨_,_,_,_,_,hro⟩:=hbi;simp at hro;omega
      | exact=>simp [Blk.rw] at hrb
      | loose z=>simp [Blk.rw] at hrb
   exact hbi.mono (Ext.refl μ) (hw _ hne)
 ·intro i i' b1 b2' m1 m2 e e' r r' f f' hbb
  have back: ∀(j:Nat) (b':Blk),upd g l (some b2) j=some b'→b'.rw=true→ ∃b0,g j=some b0∧b0.rw=true:=by
   intro j b' hj hjr
   by_cases hjl:j=l
   ·subst hjl;exact ⟨_,hg,hrw⟩
   ·rw [Xc _ _ hjl] at hj;exact ⟨b',hj,hjr⟩
  obtain ⟨c1,k1,r1⟩:=back i b1 e r
  obtain ⟨c2,k2,r2⟩:=back i' b2' e' r'
  exact h.inj i i' c1 c2 m1 m2 k1 k2 r1 r2 f f' hbb
end Go.Proofs.YtmchcjaomcdbmaaGreat.Abs
namespace Go.Proofs.YtmchcjaomcdbmaaGreat.Abs
open Go Go.RowKit
abbrev Env:=Nat→Value
abbrev Cont:=Value→G→Nat→Prop
abbrev CT:=FuncId→List Value→G→Nat→Cont→Prop
def Zc4:Operand→Bool
 | .tmp _=>true
 | .const v=>plain 3 v
 | .func _=>true
 | .global _=>false
def ev (t:Env):Operand→Value
 | .tmp i=>t i
 | .const v=>v
 | .func f=> .func (.func f) #[] #[]
 | .global _=>undef
def put (t:Env) (d:Option Tmp) (v:Value):Env:=
 match d with
 | some d=>fun i=>if i=d then v else t i
 | none=>t
def XcN (v:Value) (K:Bool→Prop):Prop:=match v with| .bool b=>K b|_=>False
def Qd4 (v:Value) (K:Int→Prop):Prop:=match v with| .int _ i=>K i|_=>False
def Qe (v:Value) (K:Nat→Nat→Prop):Prop:=match v with| .pointer (some ⟨l,o,none⟩)=>K l o|_=>False
def Jl (v:Value) (K:List Value→Prop):Prop:=match v with| .agg cs=>K cs.toList|_=>False
def Zam (g:G) (l:Nat) (K:List Value→BK→Prop):Prop:=match g l with|some (.cells cs k)=>K cs k|_=>False
def Zdd (cs:List Value) (o:Nat) (K:Value→Prop):Prop:=match cs[o]? with|some v=>K v|none=>False
def kLd (g:G) (l o:Nat) (K:Value→Prop):Prop:=Zam g l fun cs _=>Zdd cs o K
def Zn (g:G) (l o k:Nat) (K:List Value→Prop):Prop:=Zam g l fun cs _=>o+k≤cs.length∧K ((cs.drop o).take k)
def Zw (cs:List Value) (k:BK) (g:G) (n:Nat) (K:Nat→G→Nat→Prop):Prop:=g n=none→K n (upd g n (some (.cells cs k))) (n+1)
def splice (cs:List Value) (o:Nat) (vs:List Value):List Value:=cs.take o++vs++cs.drop (o+vs.length)
def kSt (g:G) (l o:Nat) (v:Value) (K:G→Prop):Prop:=Zam g l fun cs k=>k.rw=true∧o<cs.length∧isCell v=true∧K (upd g l (some (.cells (cs.set o v) k)))
def Xw (g:G) (l o:Nat) (vs:List Value) (K:G→Prop):Prop:=
 Zam g l fun cs k=>k.rw=true∧o+vs.length≤cs.length∧(∀v∈vs,isCell v=true)∧K (upd g l (some (.cells (splice cs o vs) k)))
def ptr (l o:Nat):Value:= .pointer (some ⟨l,o,none⟩)
def evS {α:Type} (P:Program):Sem α→Option α
 | .pure a=>some a
 | .program k=>evS P (k P)
 | _=>none
theorem Qfk {α:Type} {P:Program}: ∀{s:Sem α} {a:α},evS P s=some a→ ∀w,s.run P w= .ok a w
 | .pure a,b,h,w=>by simp [evS] at h;subst h;rfl
 | .program k,b,h,w=>by simp only [evS] at h;exact Qfk (s:=k P) h w
 | .load ..,_,h,_=>by simp [evS] at h
 | .store ..,_,h,_=>by simp [evS] at h
 | .new ..,_,h,_=>by simp [evS] at h
 | .shape ..,_,h,_=>by simp [evS] at h
 | .freeze ..,_,h,_=>by simp [evS] at h
 | .frozen ..,_,h,_=>by simp [evS] at h
 | .getObj ..,_,h,_=>by simp [evS] at h
 | .setObj ..,_,h,_=>by simp [evS] at h
 | .choose ..,_,h,_=>by simp [evS] at h
 | .sys ..,_,h,_=>by simp [evS] at h
 | .mark ..,_,h,_=>by simp [evS] at h
 | .halt ..,_,h,_=>by simp [evS] at h
def ZF (op:BinOp) (k:IntKind) (a b:Int) (K:Value→Prop):Prop:=
 match op with
 | .add=>K (.int k (k.wrap (a+b)))
 | .sub=>K (.int k (k.wrap (a-b)))
 | .mul=>K (.int k (k.wrap (a*b)))
 | .quo=>b≠0∧K (.int k (k.wrap (a.tdiv b)))
 | .rem=>b≠0∧K (.int k (a.tmod b))
 | .and=>K (.int k (k.wrap (BitVec.ofInt k.bits a &&& BitVec.ofInt k.bits b).toNat))
 | .or=>K (.int k (k.wrap (BitVec.ofInt k.bits a ||| BitVec.ofInt k.bits b).toNat))
 | .xor=>K (.int k (k.wrap (BitVec.ofInt k.bits a ^^^ BitVec.ofInt k.bits b).toNat))
 | .andNot=>K (.int k (k.wrap (BitVec.ofInt k.bits a &&& ~~~BitVec.ofInt k.bits b).toNat))
 | .eql=>K (.bool (a==b))
 | .neq=>K (.bool (a !=b))
 | .lss=>K (.bool (decide (a<b)))
 | .leq=>K (.bool (decide (a≤b)))
 | .gtr=>K (.bool (decide (a>b)))
 | .geq=>K (.bool (decide (a≥b)))
 | .shl=>0≤b∧K (.int k (k.wrap (a*2^(min b.toNat k.bits))))
 | .shr=>0≤b∧K (.int k (a.fdiv (2^(min b.toNat k.bits))))
inductive LK where
 | b|i|s
def QbM:LK→Value→Value→Option Bool
 | .b,.bool a,.bool b=>some (a==b)
 | .i,.int k a,.int k' b=>if k=k' then some (a==b) else none
 | .s,.string a,.string b=>some (a==b)
 | _,_,_=>none
def Xj:List LK→List Value→List Value→Option Bool
 | [],[],[]=>some true
 | k::ks,x::xs,y::ys=>match QbM k x y,Xj ks xs ys with
  | some a,some b=>some (a&&b)
  | _,_=>none
 | _,_,_=>none
inductive EK where
 | int|bool|ptr|slice|agg (ks:List LK)|str|other
def Jdl (op:BinOp) (r:Bool) (K:Value→Prop):Prop:=
 match op with
 | .eql=>K (.bool r)
 | .neq=>K (.bool (!r))
 | _=>False
def Xb (e:EK) (op:BinOp) (x y:Value) (K:Value→Prop):Prop:=
 match e with
 | .int=>match x,y with
  | .int k a,.int k' b=>(match op with| .shl| .shr=>True|_=>k=k')∧ZF op k a b K
  | _,_=>False
 | .bool=>match x,y with
  | .bool a,.bool b=>Jdl op (a==b) K
  | _,_=>False
 | .ptr=>match x,y with
  | .pointer none,.pointer q=>Jdl op q.isNone K
  | .pointer (some _),.pointer none=>Jdl op false K
  | _,_=>False
 | .slice=>match x,y with
  | .slice a _ _,.slice none _ _=>Jdl op a.isNone K
  | _,_=>False
 | .agg ks=>match x,y with
  | .agg xs,.agg ys=>match Xj ks xs.toList ys.toList with
   | some r=>Jdl op r K
   | none=>False
  | _,_=>False
 | .str=>match x,y with
  | .string a,.string b=>Jdl op (a==b) K
  | _,_=>False
 | .other=>False
def kUn (op:UnOp) (x:Value) (K:Value→Prop):Prop:=
 match op,x with
 | .not,.bool b=>K (.bool !b)
 | .neg,.int k a=>K (.int k (k.wrap (0-a)))
 | _,_=>False
def Xch (dst:IntKind) (x:Value) (K:Value→Prop):Prop:=match x with| .int _ a=>K (.int dst (dst.wrap a))|_=>False
def Qo (x:Value) (K:Value→Prop):Prop:=match x with
 | .pointer (some a)=>K (.pointer (some a))
 | .func (.func f) a b=>K (.func (.func f) a b)
 | .slice a n c=>K (.slice a n c)
 | .int k n=>K (.int k n)
 | .bool b=>K (.bool b)
 | _=>False
def Zas (x:Value) (off:Nat) (K:Value→Prop):Prop:=Qe x fun l o=>K (ptr l (o+off))
def Jc (x i:Value) (z:Nat) (K:Value→Prop):Prop:=
 match x,i with
 | .slice (some ⟨l,o,none⟩) len _,.int _ j=>0≤j∧j<len∧K (ptr l (o+j.toNat*z))
 | _,_=>False
def ZD (x i:Value) (len z:Nat) (K:Value→Prop):Prop:=
 match x,i with
 | .pointer (some ⟨l,o,none⟩),.int _ j=>0≤j∧j<len∧K (ptr l (o+j.toNat*z))
 | _,_=>False
def XaH (cs:List Value) (off:Nat) (agg:Option Nat) (K:Value→Prop):Prop:=
 match agg with
 | none=>Zdd cs off K
 | some k=>off+k≤cs.length∧K (.agg ((cs.drop off).take k).toArray)
def Xdl (x i:Value) (len z:Nat) (agg:Option Nat) (K:Value→Prop):Prop:=
 Jl x fun cs=>Qd4 i fun j=>0≤j∧j<len∧XaH cs (j.toNat*z) agg K
def Xd (x:Value) (i:Nat) (K:Value→Prop):Prop:=match x with| .tuple vs=>Zdd vs.toList i K|_=>False
def ZaH (x:Value) (K:Value→Prop):Prop:=match x with| .slice _ n _=>K (.int .i64 n)|_=>False
def XJ (x:Option Value) (d m:Nat) (K:Nat→Prop):Prop:=
 match x with
 | none=>K d
 | some v=>Qd4 v fun i=>0≤i∧i≤m∧K i.toNat
def Xu (x:Value) (lo hi mx:Option Value) (z:Nat) (K:Value→Prop):Prop:=
 match x with
 | .slice a len c=>
  if c<LC then
   XJ mx c c fun m=>XJ hi len m fun h=>XJ lo 0 h fun l=>K (.slice (if m=l then a else a.map (·.add (l*z))) (h-l) (m-l))
  else
   c=LC+z∧match mx with
   | none=>XJ hi len len fun h=>XJ lo 0 h fun l=>K (.slice (a.map (·.add (l*z))) (h-l) (LC+z))
   | some mx=>XJ (some mx) 0 len fun m=>m<LC∧XJ hi 0 m fun h=>XJ lo 0 h fun l=>K (.slice (a.map (·.add (l*z))) (h-l) (m-l))
 | _=>False
def J6 (g:G) (x:Value) (k z:Nat) (K:List Value→Prop):Prop:=
 match x with
 | .slice none _ _=>k*z=0∧K []
 | .slice (some ⟨l,o,none⟩) _ _=>if k*z=0 then K [] else Zn g l o (k*z) K
 | _=>False
def lenOf (x:Value):Nat:=match x with| .slice _ n _=>n|_=>0
def Q5 (s x:Value) (z bytes:Nat) (g:G) (n:Nat) (K:Cont):Prop:=
 match s,x with
 | .slice base len c,.slice _ k _=>
  bytes≤1048576∧(len+k)*bytes≤140737488355328∧len+k<140737488355328∧J6 g x k z fun new=>(∀v∈new,isCell v=true)∧
  if c<LC then
   if len+k≤c then
    match base with
    | none=>new=[]∧K (.slice none (len+k) c) g n
    | some ⟨l,o,none⟩=>if new=[] then K (.slice (some ⟨l,o,none⟩) (len+k) c) g n else Xw g l (o+len*z) new fun g=>K (.slice (some ⟨l,o,none⟩) (len+k) c) g n
    | _=>False
   else J6 g s len z fun old=>Zw (old++new) (.loose z) g n fun l g n=>K (.slice (some ⟨l,0,none⟩) (len+k) (LC+z)) g n
  else match base with
   | some ⟨l,o,none⟩=>c=LC+z∧Zam g l fun cs bk=>(match bk with| .loose z'=>z'=z|_=>False)∧o+len*z≤cs.length∧
     (g n=none→K (.slice (some ⟨n,0,none⟩) (len+k) (LC+z)) (upd (upd g l none) n (some (.cells (((cs.drop o).take (len*z))++new) (.loose z)))) (n+1))
   | _=>False
 | _,_=>False
def reps (k:Nat) (z:List Value):List Value:=(List.replicate k z).flatten
def QaI (s x:Value) (zero:List Value) (bytes:Nat) (g:G) (n:Nat) (K:Cont):Prop:=
 match s,x with
 | .slice none 0 0,.int .i64 a=>0<zero.length∧0<a∧a<1099511627776∧a.toNat*bytes≤1099511627776∧
  Zw (reps a.toNat zero) (.loose zero.length) g n fun l g n=>K (.slice (some ⟨l,0,none⟩) a.toNat (LC+zero.length)) g n
 | _,_=>False
def Zbk (d s:Value) (z:Nat) (g:G) (K:Value→G→Prop):Prop:=
 match d,s with
 | .slice base len _,.slice _ k _=>J6 g s (min k len) z fun new=>(∀v∈new,isCell v=true)∧
  match base with
  | none=>K (.int .i64 (min k len:Nat)) g
  | some ⟨l,o,none⟩=>if new=[] then K (.int .i64 (min k len:Nat)) g else Xw g l o new fun g=>K (.int .i64 (min k len:Nat)) g
  | _=>False
 | _,_=>False
def Jav (x:Value) (zero:List Value) (g:G) (K:Value→G→Prop):Prop:=
 match x with
 | .slice none _ _=>K undef g
 | .slice (some ⟨l,o,none⟩) len _=>if len=0∨zero=[] then K undef g else Xw g l o (reps len zero) fun g=>K undef g
 | _=>False
def QbK (len cap:Value) (zero:List Value) (bytes:Nat) (g:G) (n:Nat) (K:Cont):Prop:=
 Qd4 len fun a=>Qd4 cap fun c=>0≤a∧a≤c∧c*bytes≤1099511627776∧c≤1099511627776∧
  Zw (reps c.toNat zero) .exact g n fun l g n=>K (.slice (some ⟨l,0,none⟩) a.toNat c.toNat) g n
def Xk (cs:List Value):List (Nat×Option Nat×Value)→(List Value→Prop)→Prop
 | [],K=>K cs
 |(off,none,v)::r,K=>isCell v=true∧off<cs.length∧Xk (cs.set off v) r K
 |(off,some k,v)::r,K=>Jl v fun vs=>vs.length=k∧off+k≤cs.length∧Xk (splice cs off vs) r K
def Zbl (C:CT) (f:Value) (args:List Value) (g:G) (n:Nat) (K:Cont):Prop:=
 match f with
 | .func (.func f) a b=>C f (a.toList++args++b.toList) g n K
 | _=>False
def JbS (P:Program) (t:TypeId) (K:Nat→Prop):Prop:=match P.info? t with|some i=>K i.size|none=>False
def Xak (P:Program) (t:TypeId) (K:Option Nat→Prop):Prop:=
 match P.underlying t with
 | some (.struct _)|some (.array _ _)=>JbS P t fun k=>K (some k)
 | some _=>JbS P t fun k=>match k==1 with|true=>K none|false=>False
 | none=>False
def zeroOf (P:Program) (t:TypeId) (K:List Value→Nat→Prop):Prop:=
 match P.info? t with
 | some i=>match i.zero with
  | some z=>match plain 3 z&&z.cells.toList.all isCell&&(z.cells.size==i.size) with
   | true=>K z.cells.toList i.bytes
   | false=>False
  | none=>False
 | none=>False
def eqFields (P:Program) (F:TypeId→Option (List LK)):List Field→Nat→Option (List LK)
 | [],_=>some []
 | f::fs,at_=>if f.name= "_" ∨f.offset≠at_ then none else
  match F f.type,P.info? f.type with
  | some ks,some i=>if i.size=ks.length then (eqFields P F fs (at_+ks.length)).map (ks++ ·) else none
  | _,_=>none
def JfC (P:Program):Nat→TypeId→Option (List LK)
 | 0=>fun _=>none
 | d+1=>fun t=>
  match P.underlying t with
  | some .bool=>some [.b]
  | some (.int _)=>some [.i]
  | some .string=>some [.s]
  | some (.struct fs)=>if P.stoodInHeld t then none else eqFields P (JfC P d) fs.toList 0
  | some (.array len e)=>match JfC P d e,P.info? e with
   | some ks,some i=>if i.size=ks.length then some (List.replicate len ks).flatten else none
   | _,_=>none
  | _=>none
def ZeM (P:Program) (t:TypeId):EK:=
 match P.underlying t with
 | some (.int _)=> .int
 | some .string=> .str
 | some .bool=> .bool
 | some (.pointer _)=> .ptr
 | some (.slice _)=> .slice
 | some (.struct _)|some (.array _ _)=>match JfC P 6 t,P.eqGuardType P.depth t with
  | some ks,false=> .agg ks
  | _,_=> .other
 | _=> .other
def partsOf (P:Program) (t:Env) (place:Nat→Option (Nat×TypeId)):List (Nat×Operand)→(List (Nat×Option Nat×Value)→Prop)→Prop
 | [],K=>K []
 |(i,x)::r,K=>match place i with
  | some (off,ty)=>Xak P ty fun a=>partsOf P t place r fun l=>K ((off,a,ev t x)::l)
  | none=>False
def Qgg (P:Program) (ty:TypeId) (v:Value) (g:G) (n:Nat) (K:Nat→G→Nat→Prop):Prop:=
 Xak P ty fun a=>match a with
 | some _=>Jl v fun cs=>Zw cs .exact g n K
 | none=>isCell v=true∧Zw [v] .exact g n K
def JdO (kk:IntKind) (a:Int):List (Value×Value)→Nat→Option (Option Nat)
 | [],_=>some none
 |(.int k b,_)::es,i=>if k=kk then (if a=b then some (some i) else JdO kk a es (i+1)) else none
 | _::_,_=>none
def Qez (g:G) (l:Nat) (K:List (Value×Value)→Prop):Prop:=match g l with|some (.map es)=>K es|_=>False
def Jfq (kk:IntKind) (key:Value) (K:Int→Prop):Prop:=match key with| .int k a=>k=kk∧K a|_=>False
def XcO (kk:IntKind) (a:Int) (es:List (Value×Value)) (K:Option Nat→Prop):Prop:=match JdO kk a es 0 with|some r=>K r|none=>False
def kAt (es:List (Value×Value)) (i:Nat) (K:Value×Value→Prop):Prop:=match es[i]? with|some e=>K e|none=>False
def ZdY (b:Blk) (g:G) (n:Nat) (K:Nat→G→Nat→Prop):Prop:=g n=none→K n (upd g n (some b)) (n+1)
def Zda (P:Program) (t:TypeId) (K:Value→Prop):Prop:=
 match P.info? t with
 | some i=>match i.zero with
  | some z=>match plain 3 z with
   | true=>K z
   | false=>False
  | none=>False
 | none=>False
def JcI (kk:IntKind) (x ix z:Value) (ok:Bool) (g:G) (K:Value→Prop):Prop:=
 Jfq kk ix fun a=>match x with
 | .map none=>K (match ok with|true=> .tuple #[z,.bool false]|false=>z)
 | .map (some l)=>Qez g l fun es=>XcO kk a es fun r=>match r with
  | some i=>kAt es i fun e=>K (match ok with|true=> .tuple #[e.2,.bool true]|false=>e.2)
  | none=>K (match ok with|true=> .tuple #[z,.bool false]|false=>z)
 | _=>False
def Jcz (kk:IntKind) (m key x:Value) (g:G) (K:G→Prop):Prop:=
 Jfq kk key fun a=>match m with
 | .map (some l)=>Qez g l fun es=>XcO kk a es fun r=>match r with
  | some i=>K (upd g l (some (.map (es.set i (.int kk a,x)))))
  | none=>K (upd g l (some (.map (es++[(.int kk a,x)]))))
 | _=>False
def Zbn (kk:IntKind) (m key z:Value) (g:G) (K:Value→G→Prop):Prop:=
 Jfq kk key fun a=>match m with
 | .map (some l)=>Qez g l fun es=>XcO kk a es fun r=>match r with
  | some i=>kAt es i fun e=>K (.tuple #[e.2,.int .i64 i]) (upd g l (some (.map (es.set i (.int kk a,e.2)))))
  | none=>K (.tuple #[z,.int .i64 es.length]) (upd g l (some (.map (es++[(.int kk a,z)]))))
 | _=>False
def JaD (m s x:Value) (g:G) (K:G→Prop):Prop:=
 Qd4 s fun j=>match m with
 | .map (some l)=>Qez g l fun es=>0≤j∧kAt es j.toNat fun e=>K (upd g l (some (.map (es.set j.toNat (e.1,x)))))
 | _=>False
def Xca (x:Value) (g:G) (n:Nat) (K:Nat→G→Nat→Prop):Prop:=
 match x with
 | .map (some l)=>Qez g l fun es=>ZdY (.iter l es.length []) g n K
 | _=>False
def Xdb (it:Value) (g:G) (K:Nat→Nat→List (Value×Value)→List Nat→Prop):Prop:=
 match it with
 | .pointer (some ⟨p,0,none⟩)=>match g p with
  | some (.iter l cnt seen)=>Qez g l fun es=>es.length=cnt∧K p l es seen
  | _=>False
 | _=>False
def ZeN (it:Value) (g:G) (K:Value→G→Prop):Prop:=
 Xdb it g fun p l es seen=>((∀i,i<es.length→i∈seen)→K (.tuple #[.bool false]) g)∧
  ∀(i:Nat) (kv:Value×Value),i∉seen→es[i]? =some kv→K (.tuple #[.bool true,kv.1,kv.2]) (upd g p (some (.iter l es.length (seen++[i]))))
def ZdD (it:Value) (g:G) (K:Value→Prop):Prop:=
 Xdb it g fun _ _ es seen=>match seen.getLast? with
 | some i=>kAt es i fun kv=>K (.tuple #[kv.1,kv.2])
 | none=>False
def ZfP (x:Value) (K:Value→Prop):Prop:=match x with| .slice _ _ c=>(if c<LC then K (.int .i64 (c:Nat)) else False)|_=>False
def Jcu (x:Value) (K:Value→Prop):Prop:=match x with| .string s=>K (.int .i64 (s.size:Nat))|_=>False
def ZcO (x i:Value) (K:Value→Prop):Prop:=
 match x,i with
 | .string s,.int _ j=>0≤j∧(match s[j.toNat]? with|some b=>K (.int .u8 (b.toNat:Nat))|none=>False)
 | _,_=>False
def Xgy (x y:Value) (K:Value→Prop):Prop:=match x,y with| .int k a,.int k' b=>k=k'∧K (.int k (if b<a then b else a))|_,_=>False
def Zdt (P:Program) (b:Builtin) (vs:List Value) (tys:List TypeId) (K:Value→Prop):Prop:=
 match b with
 | .cap=>match vs,tys with
  | x::_,ty::_=>match P.underlying ty with
   | some (.slice _)=>ZfP x K
   | _=>False
  | _,_=>False
 | .min=>match vs,tys with
  | [x,y],[ty,_]=>match P.underlying ty with
   | some (.int _)=>Xgy x y K
   | _=>False
  | _,_=>False
 | _=>False
def mapOf (P:Program) (t:TypeId) (K:IntKind→TypeId→Prop):Prop:=
 match P.underlying t with
 | some (.map kt e)=>match P.underlying kt with
  | some (.int kk)=>K kk e
  | _=>False
 | _=>False
def aop (P:Program) (C:CT) (o:Oper) (t:Env) (g:G) (n:Nat) (K:Cont):Prop:=
 match o.op.operands.toList.all Zc4 with
 | false=>False
 | true=>
  match o.op with
  | .move x| .assign x=>K (ev t x) g n
  | .pick c x y=>XcN (ev t c) fun b=>K (bif b then ev t x else ev t y) g n
  | .alloc e=>zeroOf P e fun z _=>Zw z .exact g n fun l g n=>K (ptr l 0) g n
  | .box e x=>Qgg P e (ev t x) g n fun l g n=>K (ptr l 0) g n
  | .build ty parts=>zeroOf P ty fun z _=>match P.underlying ty with
   | some (.struct fs)=>match fs.toList.all (fun f=>(P.info? f.type).isSome) with|false=>False|true=>partsOf P t (fun i=>(fs[i]?).map fun f=>(f.offset,f.type)) parts.toList fun l=>Xk z l fun cs=>K (.agg cs.toArray) g n
   | some (.array _ e)=>JbS P e fun k=>partsOf P t (fun i=>some (i*k,e)) parts.toList fun l=>Xk z l fun cs=>K (.agg cs.toArray) g n
   | _=>False
  | .buildSlice ty len parts=>match P.underlying ty with
   | some (.slice e)=>zeroOf P e fun z _=>match decide (len*z.length≤1000000)&&decide (len≤1000000) with
    | true=>partsOf P t (fun i=>some (i*z.length,e)) parts.toList fun l=>Xk (reps len z) l fun cs=>Zw cs .exact g n fun l g n=>K (.slice (some ⟨l,0,none⟩) len len) g n
    | false=>False
   | _=>False
  | .load ty a=>Qe (ev t a) fun l o=>Xak P ty fun a=>match a with
   | some k=>Zn g l o k fun cs=>K (.agg cs.toArray) g n
   | none=>kLd g l o fun v=>K v g n
  | .store ty a x=>Qe (ev t a) fun l o=>Xak P ty fun a=>match a with
   | some k=>Jl (ev t x) fun cs=>cs.length=k∧Xw g l o cs fun g=>K undef g n
   | none=>kSt g l o (ev t x) fun g=>K undef g n
  | .nilCheck x=>Qo (ev t x) fun v=>K v g n
  | .binOp op xt x y _=>Xb (ZeM P xt) op (ev t x) (ev t y) fun v=>K v g n
  | .unOp op _ x=>kUn op (ev t x) fun v=>K v g n
  | .convert src dst x=>match P.underlying src,P.underlying dst with
   | some _,some (.int k)=>Xch k (ev t x) fun v=>K v g n
   | _,_=>False
  | .makeFunc fn first captured=>K (.func fn (first.map (ev t)) (captured.map (ev t))) g n
  | .makeSlice ty l c=>match P.underlying ty with
   | some (.slice e)=>zeroOf P e fun z bytes=>QbK (ev t l) (ev t c) z bytes g n K
   | _=>False
  | .slice ty x lo hi mx=>match P.underlying ty,hi.isNone&&mx.isSome with
   | some (.slice e),false=>JbS P e fun z=>Xu (ev t x) (lo.map (ev t)) (hi.map (ev t)) (mx.map (ev t)) z fun v=>K v g n
   | _,_=>False
  | .fieldAddr s x f=>match P.underlying s with
   | some (.struct fs)=>match fs[f]? with
    | some fd=>JbS P fd.type fun k=>match k==0 with
     | true=>False
     | false=>Zas (ev t x) fd.offset fun v=>K v g n
    | none=>False
   | _=>False
  | .field xt x f=>match P.underlying xt with
   | some (.struct fs)=>match fs[f]? with
    | some fd=>Xak P fd.type fun a=>Jl (ev t x) fun cs=>XaH cs fd.offset a fun v=>K v g n
    | none=>False
   | _=>False
  | .indexAddr ty x i=>match P.underlying ty with
   | some (.slice e)=>JbS P e fun z=>Jc (ev t x) (ev t i) z fun v=>K v g n
   | some (.array len e)=>JbS P e fun z=>ZD (ev t x) (ev t i) len z fun v=>K v g n
   | _=>False
  | .index xt x i=>match P.underlying xt with
   | some (.array len e)=>JbS P e fun z=>Xak P e fun a=>Xdl (ev t x) (ev t i) len z a fun v=>K v g n
   | some .string=>ZcO (ev t x) (ev t i) fun v=>K v g n
   | _=>False
  | .extract x i=>Xd (ev t x) i fun v=>K v g n
  | .call c=>match c.callee with
   | .value f=>Zbl C (ev t f) (c.args.toList.map (ev t)) g n K
   | .invoke _ _=>False
   | .builtin b=>match b,c.args.toList,c.argTypes.toList with
    | .len,x::_,ty::_=>match P.underlying ty with
     | some (.slice _)=>ZaH (ev t x) fun v=>K v g n
     | some (.array len _)=>K (.int .i64 len) g n
     | some .string=>Jcu (ev t x) fun v=>K v g n
     | _=>False
    | .append,s::x::_,ty::tx::_=>match P.underlying ty,P.underlying tx with
     | some (.slice e),some (.slice _)=>zeroOf P e fun z bytes=>Q5 (ev t s) (ev t x) z.length bytes g n K
     | some (.slice e),some (.int _)=>zeroOf P e fun z bytes=>QaI (ev t s) (ev t x) z bytes g n K
     | _,_=>False
    | .copy,d::s::_,ty::_=>match P.underlying ty with
     | some (.slice e)=>JbS P e fun z=>Zbk (ev t d) (ev t s) z g fun v g=>K v g n
     | _=>False
    | .clear,x::_,ty::_=>match P.underlying ty with
     | some (.slice e)=>zeroOf P e fun z _=>Jav (ev t x) z g fun v g=>K v g n
     | _=>False
    | b',xs,ts=>Zdt P b' (xs.map (ev t)) ts fun v=>K v g n
  | .makeMap ty r=>match r with
   | none=>ZdY (.map []) g n fun l g n=>K (.map (some l)) g n
   | some x=>match P.underlying ty with
    | some (.map _ _)=>Qd4 (ev t x) fun _=>ZdY (.map []) g n fun l g n=>K (.map (some l)) g n
    | _=>False
  | .lookup xt x i ok=>mapOf P xt fun kk e=>Zda P e fun z=>JcI kk (ev t x) (ev t i) z ok g fun v=>K v g n
  | .mapUpdate ty m k x| .insert ty m k x=>mapOf P ty fun kk _=>Jcz kk (ev t m) (ev t k) (ev t x) g fun g=>K undef g n
  | .mapEntry ty m k=>mapOf P ty fun kk e=>Zda P e fun z=>Zbn kk (ev t m) (ev t k) z g fun v g=>K v g n
  | .entryStore _ m s x=>JaD (ev t m) (ev t s) (ev t x) g fun g=>K undef g n
  | .range xt x=>match P.underlying xt with
   | some (.map _ _)=>Xca (ev t x) g n fun l g n=>K (ptr l 0) g n
   | _=>False
  | .next it false=>ZeN (ev t it) g fun v g=>K v g n
  | .entry it=>ZdD (ev t it) g fun v=>K v g n
  | _=>False
end Go.Proofs.YtmchcjaomcdbmaaGreat.Abs
namespace Go.Proofs.YtmchcjaomcdbmaaGreat.Abs
open Go Go.RowKit
def Fin (B:Nat) (w:World) (μ:Mu) (K:Cont) (v':Value) (w':World):Prop:=
 ∃v g n μ',K v g n∧VR μ' v v'∧Sim μ' g n w' B∧Ext μ μ'∧Below B w w'
def Xft (B:Nat) (w:World) (μ:Mu) (K:Cont) (e:Ending) (w':World):Prop:=
 match e with
 | .returned v'=>Fin B w μ K v' w'
 | .panicked _=>False
 | .outgrown=>False
def Upon (P:Program) (B:Nat) (w:World) (μ:Mu) (K:Cont):Result Next→Prop
 | .ok (.value v') w'=>Fin B w μ K v' w'
 | .ok .skip w'=>Fin B w μ K undef w'
 | .ok (.enter f args) w'=>Calls P f args w' (Xft B w μ K)
 | .ok (.row row args) w'=>Rows P row args w' (Fin B w μ K)
 | _=>False
theorem Fin.mono {B:Nat} {w w0:World} {μ μ0:Mu} {K K':Cont} {v':Value} {w':World} (h:Fin B w μ K v' w') (hk: ∀v g n,K v g n→K' v g n) (hx:Ext μ0 μ) (hb:Below B w0 w):
  Fin B w0 μ0 K' v' w':=by
 obtain ⟨v,g,n,μ',k,r,s,x,b⟩:=h
 exact ⟨v,g,n,μ',hk _ _ _ k,r,s,hx.trans x,hb.trans b⟩
theorem Upon.mono {P:Program} {B:Nat} {w w0:World} {μ μ0:Mu} {K K':Cont} {r:Result Next} (h:Upon P B w μ K r) (hk: ∀v g n,K v g n→K' v g n) (hx:Ext μ0 μ) (hb:Below B w0 w):
  Upon P B w0 μ0 K' r:=by
 cases r with
 | ok x w'=>
  cases x<;>simp only [Upon] at h ⊢ <;>first
   | exact h.mono hk hx hb
   | exact h.elim
   | exact Calls.mono h fun e w'' he=>by cases e<;>simp only [Xft] at he ⊢ <;>exact he.mono hk hx hb
   | exact Rows.mono h fun v w'' he=>he.mono hk hx hb
 | halt x w'=>exact h.elim
def ZaU (P:Program):CT:=fun f args g n K=>
 ∀(μ:Mu) (w:World) (B:Nat) (cargs:Array Value),Sim μ g n w B→VRs μ args cargs.toList→Upon P B w μ K ((callFunc f cargs).run P w)
structure EnvR (μ:Mu) (N:Nat) (t:Env) (a:Act):Prop where
 size:a.tmps.size=N
 rel: ∀i,VR μ (t i) (a.tmps.getD i undef)
theorem X9 (μ:Mu):VR μ undef undef:= .tuple rfl (by intro i x y h;simp at h)
theorem EnvR.ev {μ:Mu} {N:Nat} {t:Env} {a:Act} (h:EnvR μ N t a) {x:Operand} (hx:Zc4 x=true):VR μ (ev t x) (a.eval x):=by
 cases x with
 | tmp i=>exact h.rel i
 | const v=>exact Zau μ 3 v hx
 | global g=>simp [Zc4] at hx
 | func f=>exact .func _ rfl rfl (by intro i x u h;simp at h) (by intro i x u h;simp at h)
theorem EnvR.ext {μ μ':Mu} {N:Nat} {t:Env} {a:Act} (h:EnvR μ N t a) (hx:Ext μ μ'):EnvR μ' N t a:=⟨h.size,fun i=>(h.rel i).ext hx⟩
theorem EnvR.put {μ:Mu} {N:Nat} {t:Env} {a:Act} (h:EnvR μ N t a) {v v':Value} (hv:VR μ v v') (d:Option Tmp) (hd: ∀i,d=some i→i<N):EnvR μ N (put t d v) (a.put d v'):=by
 cases d with
 | none=>exact h
 | some d=>
  have hd:=hd d rfl
  refine ⟨by simp [Act.put,h.size],fun i=> ?_⟩
  simp only [Abs.put,Act.put]
  have hsz:=h.size
  by_cases hi:i=d
  ·subst hi
   have hlt:i<a.tmps.size:=hsz▸hd
   simp [Array.getD,hlt]
   exact hv
  ·have:=h.rel i
   rw [if_neg hi]
   have e:(a.tmps.setIfInBounds d v').getD i undef=a.tmps.getD i undef:=by
    simp only [Array.getD_eq_getD_getElem?]
    rw [Array.getElem?_setIfInBounds_ne (Ne.symm hi)]
   rw [e];exact this
section
variable {P:Program} {B:Nat} {w:World} {μ:Mu} {g:G} {n:Nat} {K:Cont}
theorem Zi (hs:Sim μ g n w B) {v v':Value} (hr:VR μ v v') (hk:K v g n):Fin B w μ K v' w:=⟨v,g,n,μ,hk,hr,hs,Ext.refl μ,Below.refl B w⟩
theorem Jcn {v v':Value} {J:Nat→Nat→Prop} (hr:VR μ v v') (h:Qe v J): ∃l o m,v= .pointer (some ⟨l,o,none⟩)∧μ l=some m∧v'= .pointer (some ⟨m.b,m.s+o,none⟩)∧J l o:=by
 unfold Qe at h
 split at h
 ·rename_i l o
  cases hr with
  | @ptr _ m _ hm=>exact ⟨l,o,m,rfl,hm,rfl,h⟩
 ·exact h.elim
theorem JH {l:Nat} {J:List Value→BK→Prop} (h:Zam g l J): ∃cs k,g l=some (.cells cs k)∧J cs k:=by
 unfold Zam at h
 split at h
 ·rename_i cs k e;exact ⟨cs,k,e,h⟩
 ·exact h.elim
theorem QaZ {cs:List Value} {o:Nat} {J:Value→Prop} (h:Zdd cs o J): ∃v,cs[o]? =some v∧J v:=by
 unfold Zdd at h
 split at h
 ·rename_i v e;exact ⟨v,e,h⟩
 ·exact h.elim
theorem Za0 {v:Value} {J:List Value→Prop} (h:Jl v J): ∃cs,v= .agg cs∧J cs.toList:=by
 unfold Jl at h
 split at h
 ·rename_i cs;exact ⟨cs,rfl,h⟩
 ·exact h.elim
theorem Xa2 {v:Value} {J:Int→Prop} (h:Qd4 v J): ∃k i,v= .int k i∧J i:=by
 unfold Qd4 at h
 split at h
 ·rename_i k i;exact ⟨k,i,rfl,h⟩
 ·exact h.elim
theorem Jdq {v:Value} {J:Bool→Prop} (h:XcN v J): ∃b,v= .bool b∧J b:=by
 unfold XcN at h
 split at h
 ·rename_i b;exact ⟨b,rfl,h⟩
 ·exact h.elim
theorem Xau {ty:TypeId} {J:Nat→Prop} (h:JbS P ty J): ∃i,P.info? ty=some i∧J i.size:=by
 unfold JbS at h
 split at h
 ·rename_i i e;exact ⟨i,e,h⟩
 ·exact h.elim
theorem ZaD {ty:TypeId} {J:Option Nat→Prop} (h:Xak P ty J):
  (∃i,P.info? ty=some i∧(∀w:World,(isAgg ty).run P w= .ok true w)∧J (some i.size))∨(∃i,P.info? ty=some i∧i.size=1∧(∀w:World,(isAgg ty).run P w= .ok false w)∧J none):=by
 unfold Xak at h
 split at h
 ·rename_i fs e
  obtain ⟨i,hi,hj⟩:=Xau h
  exact .inl ⟨i,hi,fun w=>by simp [isAgg,underlying,e],hj⟩
 ·rename_i a b e
  obtain ⟨i,hi,hj⟩:=Xau h
  exact .inl ⟨i,hi,fun w=>by simp [isAgg,underlying,e],hj⟩
 ·rename_i d h1 h2 e
  obtain ⟨i,hi,hj⟩:=Xau h
  split at hj
  ·rename_i hsz
   refine .inr ⟨i,hi,by simpa using hsz,fun w=> ?_,hj⟩
   cases d<;>simp [isAgg,underlying,e]<;>simp_all
  ·exact hj.elim
 ·exact h.elim
theorem Je {ty:TypeId} {i:TypeInfo} (h:P.info? ty=some i) (w:World):(sizeOf ty).run P w= .ok i.size w:=by
 simp [sizeOf,typeInfo,h]
theorem Xbr (hs:Sim μ g n w B) {l o k:Nat} {cs:List Value} {bk:BK} {m:Pl} (hg:g l=some (.cells cs bk)) (hm:μ l=some m) (ho:o+k≤cs.length):
  ∃vs:List Value,(loadCells ⟨m.b,m.s+o,none⟩ k).run P w= .ok vs.toArray w∧VRs μ ((cs.drop o).take k) vs:=by
 have hc: ∀j,j<k→ ∃v',w.cell? ⟨m.b,m.s+(o+j),none⟩=some v'∧VR μ (cs.getD (o+j) undef) v':=by
  intro j hj
  obtain ⟨v',h1,h2⟩:=hs.load hg hm (o:=o+j) (v:=cs.getD (o+j) undef) (by
   rw [List.getD_eq_getElem?_getD,List.getElem?_eq_getElem (by omega)];rfl)
  exact ⟨v',h1,h2⟩
 let f:Nat→Value:=fun j=>(w.cell? ⟨m.b,m.s+(o+j),none⟩).getD undef
 have hf: ∀j,j<k→w.cell? ((⟨m.b,m.s+o,none⟩:Addr).add j)=some (f j):=by
  intro j hj
  obtain ⟨v',h1,_⟩:=hc j hj
  have:(⟨m.b,m.s+o,none⟩:Addr).add j=⟨m.b,m.s+(o+j),none⟩:=by
   unfold Addr.add;split<;>simp_all<;>omega
  rw [this,h1];simp [f,h1]
 refine ⟨(List.range k).map f,?_,?_⟩
 ·have:=run_loadCells (P:=P) w ⟨m.b,m.s+o,none⟩ k f hf
  simpa using this
 ·refine VRs.of_get (by simp;omega) ?_
  intro j x y hx hy
  have hj:j<k:=by
   have:=(List.getElem?_eq_some_iff.1 hy).1
   simpa using this
  simp [hj,List.getElem?_drop] at hx
  simp [hj] at hy
  obtain ⟨v',h1,h2⟩:=hc j hj
  have:y=v':=by rw [←hy];simp [f,h1]
  subst this
  simpa [List.getD_eq_getElem?_getD,hx] using h2
end
end Go.Proofs.YtmchcjaomcdbmaaGreat.Abs
namespace Go.Proofs.YtmchcjaomcdbmaaGreat.Abs
open Go Go.RowKit
variable {P:Program} {B:Nat} {w:World} {μ:Mu} {g:G} {n:Nat} {K:Cont}
theorem Ja7 (b o j:Nat):(⟨b,o,none⟩:Addr).add j=⟨b,o+j,none⟩:=by
 unfold Addr.add;split<;>simp_all
theorem Jer (hs:Sim μ g n w B) {ty:TypeId} {v v':Value} (hr:VR μ v v')
  (h:Qe v fun l o=>Xak P ty fun a=>match a with
   | some k=>Zn g l o k fun cs=>K (.agg cs.toArray) g n
   | none=>kLd g l o fun v=>K v g n):
  ∃x,(Instr.loadAt ty v').run P w= .ok x w∧Fin B w μ K x w:=by
 obtain ⟨l,o,m,rfl,hm,rfl,h⟩:=Jcn hr h
 rcases ZaD h with ⟨i,hi,ha,hj⟩|⟨i,hi,_,ha,hj⟩
 ·obtain ⟨cs,k,hg,ho,hk⟩:=JH hj
  obtain ⟨vs,hrun,hvs⟩:=Xbr (P:=P) hs hg hm ho
  exact ⟨.agg vs.toArray,by simp [Instr.loadAt,Instr.sureAddr,loadVar,ha,Je hi,hrun],Zi hs hvs.agg hk⟩
 ·obtain ⟨cs,k,hg,hk⟩:=JH hj
  obtain ⟨x,hx,hk⟩:=QaZ hk
  obtain ⟨x',hc,hxr⟩:=hs.load hg hm hx
  exact ⟨x',by simp [Instr.loadAt,Instr.sureAddr,loadVar,ha,hc],Zi hs hxr hk⟩
theorem Qk {a:Addr} {v u:Value} (hc:w.cell? a=some u) (hf:w.frozen? a=false) (hv:isCell v=true):
  (store a v).run P w= .ok () (w.setCell a v):=by
 cases v<;>simp_all [store,Sem.run,isCell]
theorem Jdj (cs:List Value) (p:Nat) (v:Value) (h:p<cs.length):(cs.set p v).take (p+1)=cs.take p++[v]:=by
 apply List.ext_getElem?
 intro q
 by_cases h1:q<p
 ·rw [List.getElem?_append_left (by simp;omega)]
  simp [h1,show q<p+1 by omega,show ¬p=q by omega]
 ·by_cases h2:q=p
  ·subst h2
   rw [List.getElem?_append_right (by simp;omega)]
   simp [h,Nat.min_eq_left (Nat.le_of_lt h)]
  ·rw [List.getElem?_eq_none (by simp;omega),List.getElem?_eq_none (by simp;omega)]
theorem Jdx (cs:List Value) (p k:Nat) (v:Value) (h:p<k):(cs.set p v).drop k=cs.drop k:=by
 apply List.ext_getElem?
 intro q
 simp only [List.getElem?_drop]
 rw [List.getElem?_set_ne (by omega)]
theorem Xc3 (cs:List Value) (p:Nat) (v:Value) (vs:List Value) (h:p<cs.length):splice (cs.set p v) (p+1) vs=splice cs p (v::vs):=by
 unfold splice
 rw [Jdj _ _ _ h,Jdx _ _ _ _ (by omega)]
 simp [show p+1+vs.length=p+(vs.length+1) by omega]
theorem XcL: ∀(vs vs':List Value) (i:Nat) (w:World) (g:G) (l o:Nat) (cs:List Value) (k:BK) (m:Pl),Sim μ g n w B→g l=some (.cells cs k)→μ l=some m→
  o+i+vs.length≤cs.length→k.rw=true→VRs μ vs vs'→(∀v∈vs,isCell v=true)→
  ∃w',(storeCells ⟨m.b,m.s+o,none⟩ vs' i).run P w= .ok () w'∧Sim μ (upd g l (some (.cells (splice cs (o+i) vs) k))) n w' B∧Below B w w'
 | [],vs',i,w,g,l,o,cs,k,m,hs,hg,hm,ho,hk,hr,hc=>by
  cases hr
  refine ⟨w,by simp [storeCells],?_,Below.refl B w⟩
  have:upd g l (some (.cells (splice cs (o+i) []) k))=g:=by
   funext j
   by_cases hj:j=l
   ·subst hj;simp [upd,splice,hg]
   ·simp [upd,hj]
  rw [this];exact hs
 | v::vs,_,i,w,g,l,o,cs,k,m,hs,hg,hm,ho,hk,.cons (y:=v') (ys:=vs') hv hr,hc=>by
  simp only [List.length_cons] at ho
  obtain ⟨⟨u,hu⟩,hf,hs1,hb1⟩:=hs.store hg hm (o:=o+i) (by omega) hk hv
  have hcell:isCell v'=true:=by rw [hv.isCell];exact hc v (by simp)
  obtain ⟨w',hrun,hs2,hb2⟩:=XcL vs vs' (i+1) (w.setCell ⟨m.b,m.s+(o+i),none⟩ v') _ l o (cs.set (o+i) v) k m hs1 (by simp [upd]) hm (by simp;omega) hk hr (fun x hx=>hc x (by simp [hx]))
  refine ⟨w',?_,?_,hb1.trans hb2⟩
  ·simp only [storeCells,Sem.run_bind,Ja7]
   rw [show m.s+o+i=m.s+(o+i) by omega,Qk hu hf hcell]
   simpa using hrun
  ·have e:upd (upd g l (some (.cells (cs.set (o+i) v) k))) l (some (.cells (splice (cs.set (o+i) v) (o+(i+1)) vs) k))=upd g l (some (.cells (splice cs (o+i) (v::vs)) k)):=by
    funext j
    by_cases hj:j=l
    ·subst hj
     simp only [upd,if_true,Option.some.injEq,Blk.cells.injEq,and_true]
     rw [show o+(i+1)=o+i+1 by omega,Xc3 _ _ _ _ (by omega)]
    ·simp [upd,hj]
   rw [←e];exact hs2
theorem Xbp (hs:Sim μ g n w B) {l o:Nat} {vs vs':List Value} {J:G→Prop} {m:Pl} (hm:μ l=some m) (hr:VRs μ vs vs') (h:Xw g l o vs J):
  ∃w' g',(storeCells ⟨m.b,m.s+o,none⟩ vs').run P w= .ok () w'∧J g'∧Sim μ g' n w' B∧Below B w w':=by
 obtain ⟨cs,k,hg,hk,ho,hc,hj⟩:=JH h
 obtain ⟨w',h1,h2,h3⟩:=XcL (P:=P) vs vs' 0 w g l o cs k m hs hg hm (by simpa using ho) hk hr hc
 exact ⟨w',_,h1,hj,by simpa using h2,h3⟩
theorem Jd2 (hs:Sim μ g n w B) {ty:TypeId} {v v' x x':Value} (hr:VR μ v v') (hx:VR μ x x')
  (h:Qe v fun l o=>Xak P ty fun a=>match a with
   | some k=>Jl x fun cs=>cs.length=k∧Xw g l o cs fun g=>K undef g n
   | none=>kSt g l o x fun g=>K undef g n):
  ∃w',(Instr.storeAt ty v' x').run P w= .ok () w'∧Fin B w μ K undef w':=by
 obtain ⟨l,o,m,rfl,hm,rfl,h⟩:=Jcn hr h
 rcases ZaD h with ⟨i,hi,ha,hj⟩|⟨i,hi,h1,ha,hj⟩
 ·obtain ⟨cs,rfl,hlen,hj⟩:=Za0 hj
  obtain ⟨ys,rfl,hys⟩:=hx.agg_inv
  obtain ⟨w',g',hrun,hk,hs',hb⟩:=Xbp (P:=P) hs hm hys hj
  refine ⟨w',?_,undef,g',n,μ,hk,X9 μ,hs',Ext.refl μ,hb⟩
  have:ys.size=i.size:=by have:=hys.length;simp at this hlen;omega
  simp [Instr.storeAt,Instr.sureAddr,storeVar,Je hi,Value.cells,this,hrun]
 ·obtain ⟨cs,k,hg,hk,ho,hc,hj⟩:=JH hj
  obtain ⟨⟨u,hu⟩,hf,hs1,hb1⟩:=hs.store hg hm ho hk hx
  have hcell:isCell x'=true:=by rw [hx.isCell];exact hc
  have hcells:x'.cells= #[x']:=by cases x'<;>simp_all [Value.cells,isCell]
  refine ⟨_,?_,undef,_,n,μ,hj,X9 μ,hs1,Ext.refl μ,hb1⟩
  simp [Instr.storeAt,Instr.sureAddr,storeVar,Je hi,hcells,h1,storeCells,Ja7,Qk hu hf hcell]
theorem ZcY (hs:Sim μ g n w B) {cs ds:List Value} (hr:VRs μ cs ds) (elem:TypeId) {J:Nat→G→Nat→Prop} (h:Zw cs .exact g n J):
  ∃g' μ' m,J n g' (n+1)∧μ' n=some m∧m.b=w.heap.size∧m.s=0∧Sim μ' g' (n+1) (w.alloc (.cells ds.toArray elem)) B∧Ext μ μ'∧Below B w (w.alloc (.cells ds.toArray elem)):=by
 have h1:=h (hs.gdom n (Nat.le_refl n))
 have h2:=hs.alloc hr (es:=[]) elem 0 0 .exact trivial
 rw [List.append_nil] at h2
 exact ⟨_,_,_,h1,JaS _ _ _,rfl,rfl,h2,hs.newExt _,(Below.refl B w).alloc hs.base _⟩
theorem Qc9 (hs:Sim μ g n w B) {cs ds:List Value} (hr:VRs μ cs ds) (elem:TypeId) (h:Zw cs .exact g n fun l g n=>K (ptr l 0) g n):
  Fin B w μ K (.pointer (some ⟨w.heap.size,0,none⟩)) (w.alloc (.cells ds.toArray elem)):=by
 obtain ⟨g',μ',m,hk,hm,hb,hz,hs',hx,hbl⟩:=ZcY hs hr elem h
 refine ⟨_,g',n+1,μ',hk,?_,hs',hx,hbl⟩
 have:=VR.ptr (μ:=μ') 0 hm
 rw [hb,hz] at this
 exact this
theorem Qc1 (hs:Sim μ g n w B) {cs ds:List Value} (hr:VRs μ cs ds) (elem:TypeId) {len cap:Nat} (hc:cap<LC) (hl:len≤cap) (h:Zw cs .exact g n fun l g n=>K (.slice (some ⟨l,0,none⟩) len cap) g n):
  Fin B w μ K (.slice (some ⟨w.heap.size,0,none⟩) len cap) (w.alloc (.cells ds.toArray elem)):=by
 obtain ⟨g',μ',m,hk,hm,hb,hz,hs',hx,hbl⟩:=ZcY hs hr elem h
 refine ⟨_,g',n+1,μ',hk,?_,hs',hx,hbl⟩
 exact VR.slx (μ:=μ') 0 len cap ⟨w.heap.size,0,none⟩ hc hl hm (.inl (by rw [hb,hz]))
theorem Zak {ty:TypeId} {J:List Value→Nat→Prop} (h:zeroOf P ty J):
  ∃i z,P.info? ty=some i∧i.zero=some z∧plain 3 z=true∧(∀v∈z.cells.toList,isCell v=true)∧z.cells.size=i.size∧J z.cells.toList i.bytes:=by
 unfold zeroOf at h
 split at h
 ·rename_i i hi
  split at h
  ·rename_i z hz
   split at h
   ·rename_i hc
    simp only [Bool.and_eq_true,List.all_eq_true,beq_iff_eq] at hc
    exact ⟨i,z,hi,hz,hc.1.1,hc.1.2,hc.2,h⟩
   ·exact h.elim
  ·exact h.elim
 ·exact h.elim
theorem ZdS (hs:Sim μ g n w B) {e:TypeId} (h:zeroOf P e fun z _=>Zw z .exact g n fun l g n=>K (ptr l 0) g n):
  ∃v w',(Instr.alloc e true (.tuple #[])).run P w= .ok v w'∧Fin B w μ K v w':=by
 obtain ⟨i,z,hi,hz,hp,_,_,h⟩:=Zak h
 have hr:=(Zau μ 3 z hp).cells
 refine ⟨_,_,?_,Qc9 hs hr e h⟩
 simp [Instr.alloc,zeroValue,typeInfo,hi,hz,newVar,newRow]
theorem XeS (hs:Sim μ g n w B) {e:TypeId} {v v':Value} (hr:VR μ v v') (h:Qgg P e v g n fun l g n=>K (ptr l 0) g n):
  ∃x w',(Instr.box e v').run P w= .ok x w'∧Fin B w μ K x w':=by
 have hrun:(Instr.box e v').run P w= .ok (.pointer (some ⟨w.heap.size,0,none⟩)) (w.alloc (.cells v'.cells.toList.toArray e)):=by
  simp [Instr.box,newVar,newRow]
 refine ⟨_,_,hrun,?_⟩
 rcases ZaD h with ⟨i,hi,ha,hj⟩|⟨i,hi,h1,ha,hj⟩
 ·obtain ⟨cs,rfl,hj⟩:=Za0 hj
  exact Qc9 hs hr.cells e hj
 ·have hc:v.cells.toList=[v]:=by obtain ⟨hc,_⟩:=hj;cases v<;>simp_all [Value.cells,isCell]
  refine Qc9 hs hr.cells e ?_
  rw [hc];exact hj.2
end Go.Proofs.YtmchcjaomcdbmaaGreat.Abs
namespace Go.Proofs.YtmchcjaomcdbmaaGreat.Abs
open Go Go.RowKit
variable {P:Program} {B:Nat} {w:World} {μ:Mu} {g:G} {n:Nat} {K:Cont}
theorem Zcz: ∀(vs:List Value) (k off:Nat) (cs:List Value),off+k+vs.length≤cs.length→
  ((vs.zipIdx k).foldl (fun cs (x:Value×Nat)=>cs.set (off+x.2) x.1) cs)=splice cs (off+k) vs
 | [],k,off,cs,h=>by simp [splice]
 | v::vs,k,off,cs,h=>by
  simp only [List.length_cons] at h
  rw [List.zipIdx_cons,List.foldl_cons,Zcz vs (k+1) off _ (by simp;omega),show off+(k+1)=off+k+1 by omega,Xc3 _ _ _ _ (by omega)]
theorem Jfs (vs:Array Value) (off:Nat) (cs:Array Value) (h:off+vs.size≤cs.size):
  (vs.zipIdx.foldl (fun cs (c,j)=>cs.setIfInBounds (off+j) c) cs).toList=splice cs.toList off vs.toList:=by
 have h1:=Zcz vs.toList 0 off cs.toList (by simpa using h)
 rw [Nat.add_zero] at h1
 rw [←h1,←Array.foldl_toList]
 have: ∀(l:List (Value×Nat)) (c:Array Value),(l.foldl (fun cs (x:Value×Nat)=>cs.setIfInBounds (off+x.2) x.1) c).toList=l.foldl (fun cs x=>cs.set (off+x.2) x.1) c.toList:=by
  intro l
  induction l with
  | nil=>intro c;rfl
  | cons x l ih=>intro c;simp only [List.foldl_cons];rw [ih];simp
 simpa using this vs.zipIdx.toList cs
theorem VRs.set {xs ys:List Value} (h:VRs μ xs ys) {v v':Value} (hv:VR μ v v'): ∀o,VRs μ (xs.set o v) (ys.set o v'):=by
 induction h with
 | nil=>intro o;exact .nil
 | cons a t ih=>
  intro o
  cases o with
  | zero=>exact .cons hv t
  | succ o=>exact .cons a (ih o)
theorem VRs.splice {xs ys vs us:List Value} (h:VRs μ xs ys) (k:VRs μ vs us) (o:Nat):VRs μ (splice xs o vs) (splice ys o us):=by
 unfold Abs.splice
 rw [k.length]
 exact ((h.take o).append k).append (h.drop _)
inductive Qcq (P:Program) (μ:Mu) (place:Nat→Option (Nat×Nat)):List (Nat×Option Nat×Value)→List (Nat×Value)→Prop
 | nil:Qcq P μ place [] []
 | agg {off k i:Nat} {v v':Value} {l l'}:place i=some (off,k)→VR μ v v'→Qcq P μ place l l'→Qcq P μ place ((off,some k,v)::l) ((i,v')::l')
 | one {off i:Nat} {v v':Value} {l l'}:place i=some (off,1)→VR μ v v'→Qcq P μ place l l'→Qcq P μ place ((off,none,v)::l) ((i,v')::l')
theorem QaF {t:Env} {a:Act} {N:Nat} (he:EnvR μ N t a) {pl:Nat→Option (Nat×TypeId)} {place:Nat→Option (Nat×Nat)}
  (hpl: ∀i off ty inf,pl i=some (off,ty)→P.info? ty=some inf→place i=some (off,inf.size)):
  ∀(parts:List (Nat×Operand)) {J:List (Nat×Option Nat×Value)→Prop},(∀x∈parts,Zc4 x.2=true)→partsOf P t pl parts J→
   ∃l,J l∧Qcq P μ place l (parts.map fun x=>(x.1,a.eval x.2))
 | [],J,_,h=>⟨[],h,.nil⟩
 |(i,x)::r,J,hok,h=>by
  simp only [partsOf] at h
  split at h
  ·rename_i off ty e
   rcases ZaD h with ⟨inf,hi,_,hj⟩|⟨inf,hi,h1,_,hj⟩
   ·obtain ⟨l,hl,hr⟩:=QaF he hpl r (fun y hy=>hok y (by simp [hy])) hj
    exact ⟨_,hl,.agg (hpl i off ty inf e hi) (he.ev (hok (i,x) (by simp))) hr⟩
   ·obtain ⟨l,hl,hr⟩:=QaF he hpl r (fun y hy=>hok y (by simp [hy])) hj
    have:=hpl i off ty inf e hi
    rw [h1] at this
    exact ⟨_,hl,.one this (he.ev (hok (i,x) (by simp))) hr⟩
  ·exact h.elim
theorem ZbH {place:Nat→Option (Nat×Nat)} {l:List (Nat×Option Nat×Value)} {l':List (Nat×Value)} (hp:Qcq P μ place l l'):
  ∀{cs:List Value} {ds:Array Value} {J:List Value→Prop},VRs μ cs ds.toList→Xk cs l J→ ∃out out',J out∧Instr.fill place ds l'=some out'∧VRs μ out out'.toList:=by
 induction hp with
 | nil=>intro cs ds J hr h;exact ⟨cs,ds,h,rfl,hr⟩
 | @agg off k i v v' l l' hpl hv _ ih=>
  intro cs ds J hr h
  simp only [Xk] at h
  obtain ⟨vs,rfl,hlen,hfit,h⟩:=Za0 h
  obtain ⟨us,rfl,hus⟩:=hv.agg_inv
  have hl1:=hus.length
  have hl2:=hr.length
  simp only [Array.length_toList] at hlen hl1 hl2
  have hf:=Jfs us off ds (by omega)
  have hr2:VRs μ (splice cs off vs.toList) (us.zipIdx.foldl (fun cs (c,j)=>cs.setIfInBounds (off+j) c) ds).toList:=by
   rw [hf];exact hr.splice hus off
  obtain ⟨out,out',h1,h2,h3⟩:=ih hr2 h
  refine ⟨out,out',h1,?_,h3⟩
  unfold Instr.fill
  simp only [hpl]
  split
  ·rename_i hc
   have hc:=(Bool.or_eq_true_iff ..).1 hc
   rcases hc with hc|hc
   ·exact absurd (show us.size=k by omega) (of_decide_eq_true hc)
   ·have:=of_decide_eq_true hc;simp only [Value.cells] at this;omega
  ·exact h2
 | @one off i v v' l l' hpl hv _ ih=>
  intro cs ds J hr h
  simp only [Xk] at h
  obtain ⟨hc,hfit,h⟩:=h
  have hl2:=hr.length
  simp only [Array.length_toList] at hl2
  have hc':v'.cells= #[v']:=by have:=hv.isCell;rw [hc] at this;cases v'<;>simp_all [Value.cells,isCell]
  have hr2:VRs μ (cs.set off v) (ds.setIfInBounds off v').toList:=by simpa using hr.set hv off
  obtain ⟨out,out',h1,h2,h3⟩:=ih hr2 h
  refine ⟨out,out',h1,?_,h3⟩
  unfold Instr.fill
  simp only [hpl]
  split
  ·rename_i hcc
   have hcc:=(Bool.or_eq_true_iff ..).1 hcc
   rcases hcc with hcc|hcc
   ·exact absurd (show v'.cells.size=1 by rw [hc'];rfl) (of_decide_eq_true hcc)
   ·have:=of_decide_eq_true hcc;rw [hc'] at this;simp at this;omega
  ·simpa [hc'] using h2
theorem QbT {z:Value} (h:plain 3 z=true):VRs μ z.cells.toList z.cells.toList:=(Zau μ 3 z h).cells
theorem JbP (k:Nat) (z:List Value):reps (k+1) z=z++reps k z:=by simp [reps,List.replicate_succ]
theorem JaY (k:Nat) (z:List Value):(reps k z).length=k*z.length:=by
 induction k with
 | zero=>simp [reps]
 | succ k ih=>rw [JbP,List.length_append,ih,Nat.succ_mul];omega
theorem Xea (z:List Value): ∀(k i:Nat),i<k*z.length→(reps k z)[i]? =z[i%z.length]?
 | 0,i,h=>by simp at h
 | k+1,i,h=>by
  rw [JbP]
  have hz:0<z.length:=by
   rcases Nat.eq_zero_or_pos z.length with h0|h0
   ·simp [h0] at h
   ·exact h0
  by_cases hi:i<z.length
  ·rw [List.getElem?_append_left hi,Nat.mod_eq_of_lt hi]
  ·rw [List.getElem?_append_right (by omega),Xea z k (i-z.length) (by rw [Nat.add_mul,Nat.one_mul] at h;omega)]
   congr 1
   exact (Nat.mod_eq_sub_mod (by omega)).symm
theorem Zco (z:Array Value) (k m:Nat) (hm:m=k*z.size):((Array.range m).map (fun i=>z[i%z.size]!)).toList=reps k z.toList:=by
 subst hm
 apply List.ext_getElem?
 intro i
 by_cases h:i<k*z.size
 ·have hz:0<z.size:=by
   rcases Nat.eq_zero_or_pos z.size with h0|h0
   ·simp [h0] at h
   ·exact h0
  have hlt:i%z.size<z.size:=Nat.mod_lt _ hz
  rw [Xea _ _ _ (by simpa using h)]
  simp [h,hlt]
 ·rw [List.getElem?_eq_none (by simp;omega),List.getElem?_eq_none (by rw [JaY];simp;omega)]
theorem VRs.reps {z z':List Value} (h:VRs μ z z'): ∀k,VRs μ (Abs.reps k z) (Abs.reps k z')
 | 0=>by simpa [Abs.reps] using VRs.nil
 | k+1=>by rw [JbP,JbP];exact h.append (VRs.reps h k)
theorem Xcl {ty:TypeId} {i:TypeInfo} (h:P.info? ty=some i) (w:World):(typeInfo ty).run P w= .ok i w:=by simp [typeInfo,h]
theorem ZdX {t:Env} {a:Act} {N:Nat} (hs:Sim μ g n w B) (he:EnvR μ N t a) {ty:TypeId} {parts:Array (Nat×Operand)} (hok: ∀x∈parts.toList,Zc4 x.2=true)
  (h:zeroOf P ty fun z _=>match P.underlying ty with
   | some (.struct fs)=>match fs.toList.all (fun f=>(P.info? f.type).isSome) with|false=>False|true=>partsOf P t (fun i=>(fs[i]?).map fun f=>(f.offset,f.type)) parts.toList fun l=>Xk z l fun cs=>K (.agg cs.toArray) g n
   | some (.array _ e)=>JbS P e fun k=>partsOf P t (fun i=>some (i*k,e)) parts.toList fun l=>Xk z l fun cs=>K (.agg cs.toArray) g n
   | _=>False):
  ∃v,(Instr.build ty (parts.map fun (i,x)=>(i,a.eval x))).run P w= .ok v w∧Fin B w μ K v w:=by
 obtain ⟨inf,z,hi,hz,hp,_,hsz,h⟩:=Zak h
 have hzr:VRs μ z.cells.toList z.cells.toList:=QbT hp
 split at h
 ·rename_i fs hu
  split at h
  ·exact h.elim
  rename_i hall
  have hall: ∀f∈fs.toList,∃i,P.info? f.type=some i:=fun f hf=>Option.isSome_iff_exists.1 (List.all_eq_true.1 hall f hf)
  have hplaces: ∀(fl:List Field),(∀f∈fl,∃i,P.info? f.type=some i)→ ∃places,fl.mapM (fun f=>(P.info? f.type).map fun i=>(f.offset,i.size))=some places∧
    ∀(i:Nat) (f:Field) (inf:TypeInfo),fl[i]? =some f→P.info? f.type=some inf→places[i]? =some (f.offset,inf.size):=by
   intro fl
   induction fl with
   | nil=>intro _;exact ⟨[],rfl,by intro i f inf h;simp at h⟩
   | cons f fl ih=>
    intro hf
    obtain ⟨i0,hi0⟩:=hf f (by simp)
    obtain ⟨pl,hpl,hat⟩:=ih fun x hx=>hf x (by simp [hx])
    refine ⟨(f.offset,i0.size)::pl,by simp [List.mapM_cons,hi0,hpl],?_⟩
    intro i f' inf h1 h2
    cases i with
    | zero=>simp at h1;subst h1;rw [hi0] at h2;cases h2;rfl
    | succ i=>exact hat i f' inf (by simpa using h1) h2
  obtain ⟨places,hpl,hat⟩:=hplaces fs.toList hall
  obtain ⟨l,hl,hpr⟩:=QaF (place:=(places.toArray[·]?)) he (by
   intro i off ty inf h1 h2
   cases hf:fs[i]? with
   | none=>simp [hf] at h1
   | some f=>
    simp [hf] at h1
    obtain ⟨rfl,rfl⟩:=h1
    simpa using hat i f inf (by simpa using hf) h2) parts.toList hok h
  obtain ⟨out,out',hk,hfill,hr⟩:=ZbH (P:=P) hpr hzr hl
  refine ⟨.agg out',run_build w ty _ out' ?_,Zi hs (by simpa using hr.agg) hk⟩
  unfold Program.built
  simpa [hi,hu,hz,hpl] using hfill
 ·rename_i len e hu
  obtain ⟨ie,hie,h⟩:=Xau h
  obtain ⟨l,hl,hpr⟩:=QaF (place:=fun i=>some (i*ie.size,ie.size)) he (by
   intro i off ty inf h1 h2
   simp at h1
   obtain ⟨rfl,rfl⟩:=h1
   rw [hie] at h2;cases h2;rfl) parts.toList hok h
  obtain ⟨out,out',hk,hfill,hr⟩:=ZbH (P:=P) hpr hzr hl
  refine ⟨.agg out',run_build w ty _ out' ?_,Zi hs (by simpa using hr.agg) hk⟩
  unfold Program.built
  simpa [hi,hu,hz,hie] using hfill
 ·exact h.elim
theorem Xcg {t:Env} {a:Act} {N:Nat} (hs:Sim μ g n w B) (he:EnvR μ N t a) {ty e:TypeId} {len:Nat} {parts:Array (Nat×Operand)} (hok: ∀x∈parts.toList,Zc4 x.2=true)
  (hu:P.underlying ty=some (.slice e))
  (h:zeroOf P e fun z _=>match decide (len*z.length≤1000000)&&decide (len≤1000000) with
    | true=>partsOf P t (fun i=>some (i*z.length,e)) parts.toList fun l=>Xk (reps len z) l fun cs=>Zw cs .exact g n fun l g n=>K (.slice (some ⟨l,0,none⟩) len len) g n
    | false=>False):
  ∃v w',(Instr.buildSlice ty len (parts.map fun (i,x)=>(i,a.eval x))).run P w= .ok v w'∧Fin B w μ K v w':=by
 obtain ⟨inf,z,hi,hz,hp,_,hsz,h⟩:=Zak h
 have hzr:VRs μ z.cells.toList z.cells.toList:=QbT hp
 split at h
 ·rename_i hb
  obtain ⟨hb,hb2⟩:len*z.cells.toList.length≤1000000∧len≤1000000:=by simpa using hb
  simp only [Array.length_toList] at hb h
  obtain ⟨l,hl,hpr⟩:=QaF (place:=fun i=>some (i*inf.size,inf.size)) he (by
   intro i off ty inf' h1 h2
   simp at h1
   obtain ⟨rfl,rfl⟩:=h1
   rw [hi] at h2;cases h2;rw [hsz]) parts.toList hok h
  have hreps:((Array.range (len*inf.size)).map (fun i=>(if len*inf.size=0 then (#[]:Array Value) else z.cells)[i%(if len*inf.size=0 then (#[]:Array Value) else z.cells).size]!)).toList=reps len z.cells.toList:=by
   by_cases h0:len*inf.size=0
   ·simp only [h0,if_true]
    have:reps len z.cells.toList=[]:=by
     apply List.eq_nil_of_length_eq_zero
     rw [JaY];simp only [Array.length_toList,hsz,h0]
    rw [this];simp
   ·simp only [h0,if_false]
    exact Zco z.cells len _ (by rw [hsz])
  obtain ⟨out,out',hk,hfill,hr⟩:=ZbH (P:=P) (ds:=(Array.range (len*inf.size)).map (fun i=>(if len*inf.size=0 then (#[]:Array Value) else z.cells)[i%(if len*inf.size=0 then (#[]:Array Value) else z.cells).size]!)) hpr (by rw [hreps];exact hzr.reps len) hl
  have hlen:len<LC:=by simp only [LC];omega
  refine ⟨_,_,?_,Qc1 hs hr e hlen (Nat.le_refl _) hk⟩
  rw [hsz] at hb
  have hzv:(zeroValue e).run P w= .ok z w:=by simp [zeroValue,typeInfo,hi,hz]
  by_cases h0:len*inf.size=0
  ·simp only [h0,if_true] at hfill
   unfold Instr.buildSlice
   simp only [Sem.run_bind,run_underlying hu,Result.andThen_ok,Je hi]
   rw [if_neg (by omega)]
   simp only [h0,if_true,Sem.run_bind,Sem.run_pure,Result.andThen_ok]
   simp at hfill
   simp [hfill,newRow]
  ·simp only [h0,if_false] at hfill
   unfold Instr.buildSlice
   simp only [Sem.run_bind,run_underlying hu,Result.andThen_ok,Je hi]
   rw [if_neg (by omega)]
   simp only [h0,if_false,Sem.run_bind,Sem.run_pure,Result.andThen_ok,hzv]
   simp [hfill,newRow]
 ·exact h.elim
end Go.Proofs.YtmchcjaomcdbmaaGreat.Abs
namespace Go.Proofs.YtmchcjaomcdbmaaGreat.Abs
open Go Go.RowKit
variable {P:Program} {B:Nat} {w:World} {μ:Mu} {g:G} {n:Nat} {K:Cont}
theorem ZaE: ∀{ks ls:List LK} {a b:List Value} {r:Bool},Xj (ks++ls) a b=some r→
  ∃r1 r2,Xj ks (a.take ks.length) (b.take ks.length)=some r1∧Xj ls (a.drop ks.length) (b.drop ks.length)=some r2∧r=(r1&&r2)
 | [],ls,a,b,r,h=>⟨true,r,rfl,by simpa using h,by simp⟩
 | k::ks,ls,x::a,y::b,r,h=>by
  simp only [List.cons_append,Xj] at h
  split at h
  ·rename_i p q hp hq
   obtain ⟨r1,r2,h1,h2,h3⟩:=ZaE hq
   cases h
   exact ⟨p&&r1,r2,by simp [Xj,hp,h1],by simpa using h2,by rw [h3,Bool.and_assoc]⟩
  ·cases h
 | _::_,_,[],_,_,h=>by simp [Xj] at h
 | _::_,_,_::_,[],_,h=>by simp [Xj] at h
theorem XdA {k:LK} {x y:Value} {r:Bool} (h:QbM k x y=some r):plain 0 x=true∧plain 0 y=true:=by
 unfold QbM at h
 split at h<;>simp_all [plain]
theorem QbX: ∀{ks:List LK} {a b a' b':List Value} {r:Bool},Xj ks a b=some r→VRs μ a a'→VRs μ b b'→a'=a∧b'=b
 | [],[],[],_,_,_,_,.nil,.nil=>⟨rfl,rfl⟩
 | k::ks,x::a,y::b,_,_,r,h,.cons hx ha,.cons hy hb=>by
  simp only [Xj] at h
  split at h
  ·rename_i p q hp hq
   obtain ⟨h1,h2⟩:=QbX hq ha hb
   obtain ⟨p1,p2⟩:=XdA hp
   rw [h1,h2,ZbR hx 0 p1,ZbR hy 0 p2];exact ⟨rfl,rfl⟩
  ·cases h
 | [],_::_,_,_,_,_,h,_,_=>by simp [Xj] at h
 | [],[],_::_,_,_,_,h,_,_=>by simp [Xj] at h
 | _::_,[],_,_,_,_,h,_,_=>by simp [Xj] at h
 | _::_,_::_,[],_,_,_,h,_,_=>by simp [Xj] at h
theorem Zeg {t:TypeId} {i:TypeInfo} {d:TypeDesc} (hi:P.info? t=some i) (hu:P.underlying t=some d) (xs:Array Value) (off:Nat)
  (h:(∃fs,d= .struct fs)∨(∃n e,d= .array n e)):(part t xs off).run P w= .ok (.agg (xs.extract off (off+i.size))) w:=by
 have ha:(isAgg t).run P w= .ok true w:=by rcases h with ⟨fs,rfl⟩|⟨n,e,rfl⟩<;>simp [isAgg,underlying,hu]
 simp [part,ha,Je hi]
theorem Jb9 {t:TypeId} {d:TypeDesc} (hu:P.underlying t=some d) (xs:Array Value) (off:Nat) (v:Value) (hv:xs[off]? =some v)
  (h: ∀fs,d≠ .struct fs) (h2: ∀n e,d≠ .array n e):(part t xs off).run P w= .ok v w:=by
 have ha:(isAgg t).run P w= .ok false w:=by cases d<;>simp [isAgg,underlying,hu]<;>simp_all
 simp [part,ha,hv]
def Xc6 (P:Program) (d:Nat) (t:TypeId) (ks:List LK):Prop:=
 ∀(d':Nat) (xs ys:List Value) (r:Bool) (w:World),d≤d'→Xj ks xs ys=some r→
  ((∃fs,P.underlying t=some (.struct fs))∨(∃n e,P.underlying t=some (.array n e)))∧(Op.equalIn d' t (.agg xs.toArray) (.agg ys.toArray)).run P w= .ok r w∨
  (∃x,P.underlying t=some x∧(∀fs,x≠ .struct fs)∧(∀n e,x≠ .array n e))∧ ∃x y,xs=[x]∧ys=[y]∧(Op.equalIn d' t x y).run P w= .ok r w
theorem XcU (xs:List Value) (off k:Nat):(xs.toArray.extract off (off+k)).toList=(xs.drop off).take k:=by
 simp [List.extract_eq_take_drop]
theorem take_one {xs:List Value} {off k:Nat} {x:Value} (h:(xs.drop off).take k=[x]):xs[off]? =some x:=by
 cases hd:xs.drop off with
 | nil=>simp [hd] at h
 | cons y r=>
  cases k with
  | zero=>simp at h
  | succ k=>
   simp [hd] at h
   have:=List.getElem?_drop (xs:=xs) (i:=off) (j:=0)
   rw [hd] at this
   simp at this
   rw [←this,h.1]
theorem ZeU {d:Nat} {t:TypeId} {ks:List LK} {i:TypeInfo} (hk:Xc6 P d t ks) (hi:P.info? t=some i) (hsz:i.size=ks.length) {d':Nat} (hd:d≤d') (xs ys:List Value) (off:Nat) {r:Bool}
  (hr:Xj ks ((xs.drop off).take ks.length) ((ys.drop off).take ks.length)=some r):
  ((do let a ←part t xs.toArray off;let b ←part t ys.toArray off;Op.equalIn d' t a b:Sem Bool)).run P w= .ok r w:=by
 rcases hk d' _ _ r w hd hr with ⟨hagg,hs⟩|⟨⟨x,hx,hn1,hn2⟩,a,b,ha,hb,hs⟩
 ·obtain ⟨x,hx,hagg⟩: ∃x,P.underlying t=some x∧((∃fs,x= .struct fs)∨(∃n e,x= .array n e)):=by
   rcases hagg with ⟨fs,h⟩|⟨n,e,h⟩
   ·exact ⟨_,h,.inl ⟨fs,rfl⟩⟩
   ·exact ⟨_,h,.inr ⟨n,e,rfl⟩⟩
  have h1:=Zeg (w:=w) hi hx xs.toArray off hagg
  have h2:=Zeg (w:=w) hi hx ys.toArray off hagg
  have e1:xs.toArray.extract off (off+i.size)=((xs.drop off).take ks.length).toArray:=by
   rw [←hsz,←XcU]
  have e2:ys.toArray.extract off (off+i.size)=((ys.drop off).take ks.length).toArray:=by
   rw [←hsz,←XcU]
  rw [e1] at h1;rw [e2] at h2
  simp only [Sem.run_bind,h1,Result.andThen_ok,h2,hs]
 ·have hx1:xs.toArray[off]? =some a:=by simpa using take_one ha
  have hy1:ys.toArray[off]? =some b:=by simpa using take_one hb
  simp only [Sem.run_bind,Jb9 hx _ _ _ hx1 hn1 hn2,Jb9 hx _ _ _ hy1 hn1 hn2,Result.andThen_ok,hs]
theorem Jbz {d:Nat} (ih: ∀t ks,JfC P d t=some ks→Xc6 P d t ks): ∀(fs:List Field) (at_:Nat) (ks:List LK),eqFields P (JfC P d) fs at_=some ks→
  ∀(d':Nat) (xs ys:List Value) (r:Bool) (w:World),d≤d'→Xj ks (xs.drop at_) (ys.drop at_)=some r→(Op.eqFields d' xs.toArray ys.toArray fs).run P w= .ok r w
 | [],at_,ks,h=>by
  simp only [eqFields,Option.some.injEq] at h
  subst h
  intro d' xs ys r w _ hr
  cases hx:xs.drop at_ with
  | cons _ _=>simp [hx,Xj] at hr
  | nil=>
   cases hy:ys.drop at_ with
   | cons _ _=>simp [hx,hy,Xj] at hr
   | nil=>simp [hx,hy,Xj] at hr;subst hr;simp [Op.eqFields]
 | f::fs,at_,ks,h=>by
  simp only [eqFields] at h
  split at h
  ·cases h
  rename_i hno
  split at h
  ·rename_i k1 i h1 hi
   split at h
   ·rename_i hsz
    obtain ⟨k2,h2,rfl⟩:=Option.map_eq_some_iff.1 h
    have hrest:=Jbz ih fs (at_+k1.length) k2 h2
    have hname:f.name≠ "_" :=fun e=>hno (.inl e)
    have hoff:f.offset=at_:=Classical.byContradiction fun e=>hno (.inr e)
    intro d' xs ys r w hd hr
    obtain ⟨r1,r2,hr1,hr2,rfl⟩:=ZaE hr
    rw [List.drop_drop,List.drop_drop] at hr2
    have hp:=ZeU (w:=w) (ih _ _ h1) hi hsz hd xs ys at_ hr1
    simp only [Op.eqFields,ne_eq,hname,not_false_eq_true,if_true,hoff]
    have e: ∀(f':Bool→Sem Bool),((do let a ←part f.type xs.toArray at_;let b ←part f.type ys.toArray at_;let r ←Op.equalIn d' f.type a b;f' r:Sem Bool))=((do let a ←part f.type xs.toArray at_;let b ←part f.type ys.toArray at_;Op.equalIn d' f.type a b:Sem Bool) >>= f'):=by intro f';simp
    rw [e,Sem.run_bind,hp,Result.andThen_ok]
    cases r1 with
    | false=>simp
    | true=>simpa using hrest d' xs ys r2 w hd hr2
   ·cases h
  ·cases h
theorem Qdg {d d':Nat} {e:TypeId} {ks:List LK} {i:TypeInfo} (hk:Xc6 P d e ks) (hi:P.info? e=some i) (hsz:i.size=ks.length) (hd:d≤d') (xs ys:List Value):
  ∀(len s:Nat) (r:Bool) (w:World),Xj (List.replicate len ks).flatten (xs.drop (s*ks.length)) (ys.drop (s*ks.length))=some r→
  (forIn (m:=Sem) (List.range' s len) ((none,()):Option Bool×Unit) fun j _=>do
   let a ←part e xs.toArray (j*i.size)
   let b ←part e ys.toArray (j*i.size)
   let q ←Op.equalIn d' e a b
   if (!q)=true then pure (ForInStep.done (some false,())) else pure (ForInStep.yield (none,()))).run P w= .ok (if r then none else some false,()) w:=by
 intro len
 induction len with
 | zero=>
  intro s r w hr
  simp only [List.replicate_zero,List.flatten_nil] at hr
  cases hx:xs.drop (s*ks.length) with
  | cons _ _=>simp [hx,Xj] at hr
  | nil=>
   cases hy:ys.drop (s*ks.length) with
   | cons _ _=>simp [hx,hy,Xj] at hr
   | nil=>simp [hx,hy,Xj] at hr;subst hr;simp
 | succ len ih=>
  intro s r w hr
  rw [List.replicate_succ,List.flatten_cons] at hr
  obtain ⟨r1,r2,hr1,hr2,rfl⟩:=ZaE hr
  rw [List.drop_drop,List.drop_drop,←Nat.succ_mul] at hr2
  have hp:=ZeU (w:=w) hk hi hsz hd xs ys (s*ks.length) hr1
  have ihs:=ih (s+1) r2 w hr2
  rw [List.range'_succ,List.forIn_cons]
  rw [←hsz] at hp
  have e': ∀(f':Bool→Sem (ForInStep (Option Bool×Unit))),((do let a ←part e xs.toArray (s*i.size);let b ←part e ys.toArray (s*i.size);let r ←Op.equalIn d' e a b;f' r:Sem _))=((do let a ←part e xs.toArray (s*i.size);let b ←part e ys.toArray (s*i.size);Op.equalIn d' e a b:Sem Bool) >>= f'):=by intro f';simp
  rw [e',Sem.run_bind,Sem.run_bind,hp,Result.andThen_ok]
  cases r1 with
  | false=>simp
  | true=>simpa using ihs
theorem JcS: ∀(d:Nat) (t:TypeId) (ks:List LK),JfC P d t=some ks→Xc6 P d t ks
 | 0,t,ks,h=>by simp [JfC] at h
 | d+1,t,ks,h=>by
  have ih:=JcS d
  intro d' xs ys r w hd hr
  obtain ⟨d',rfl⟩: ∃q,d'=q+1:=⟨d'-1,by omega⟩
  have one: ∀k,ks=[k]→ ∃x y,xs=[x]∧ys=[y]∧QbM k x y=some r:=by
   rintro k rfl
   cases xs with
   | nil=>simp [Xj] at hr
   | cons x xs=>
    cases ys with
    | nil=>simp [Xj] at hr
    | cons y ys=>
     cases hxy:QbM k x y with
     | none=>simp [Xj,hxy] at hr
     | some p=>
      cases xs with
      | cons _ _=>simp [Xj,hxy] at hr
      | nil=>cases ys with
       | cons _ _=>simp [Xj,hxy] at hr
       | nil=>simp [Xj,hxy] at hr;subst hr;exact ⟨x,y,rfl,rfl,hxy⟩
  unfold JfC at h
  split at h
  ·rename_i hu
   simp only [Option.some.injEq] at h
   obtain ⟨x,y,rfl,rfl,hxy⟩:=one .b h.symm
   refine .inr ⟨⟨_,hu,by simp,by simp⟩,x,y,rfl,rfl,?_⟩
   cases x<;>cases y<;>simp_all [QbM,Op.equalIn,run_underlying]
  ·rename_i k hu
   simp only [Option.some.injEq] at h
   obtain ⟨x,y,rfl,rfl,hxy⟩:=one .i h.symm
   refine .inr ⟨⟨_,hu,by simp,by simp⟩,x,y,rfl,rfl,?_⟩
   cases x<;>cases y<;>simp_all [QbM,Op.equalIn,run_underlying]
  ·rename_i hu
   simp only [Option.some.injEq] at h
   obtain ⟨x,y,rfl,rfl,hxy⟩:=one .s h.symm
   refine .inr ⟨⟨_,hu,by simp,by simp⟩,x,y,rfl,rfl,?_⟩
   cases x<;>cases y<;>simp_all [QbM,Op.equalIn,run_underlying]
  ·rename_i fs hu
   split at h
   ·cases h
   rename_i hst
   refine .inl ⟨.inl ⟨fs,hu⟩,?_⟩
   have hf:P.underlying t=some (.struct (P.fieldsOf t)):=by simp [Program.fieldsOf,hu]
   have hff:P.fieldsOf t=fs:=by simp [Program.fieldsOf,hu]
   rw [run_equalIn_struct w d' t _ _ hf (by simpa using hst),hff]
   exact Jbz ih fs.toList 0 ks h d' xs ys r w (by omega) (by simpa using hr)
  ·rename_i len e hu
   split at h
   ·rename_i k1 i h1 hi
    split at h
    ·rename_i hsz
     simp only [Option.some.injEq] at h
     subst h
     refine .inl ⟨.inr ⟨len,e,hu⟩,?_⟩
     have:=Qdg (ih _ _ h1) hi hsz (show d≤d' by omega) xs ys len 0 r w (by simpa using hr)
     simp only [Op.equalIn,Sem.run_bind,run_underlying hu,Result.andThen_ok,Je hi]
     rw [Std.Legacy.Range.forIn_eq_forIn_range']
     simp only [Std.Legacy.Range.size,Nat.sub_zero,Nat.add_sub_cancel,Nat.div_one]
     rw [this,Result.andThen_ok]
     cases r<;>simp
    ·cases h
   ·cases h
  ·cases h
end Go.Proofs.YtmchcjaomcdbmaaGreat.Abs
namespace Go.Proofs.YtmchcjaomcdbmaaGreat.Abs
open Go Go.RowKit
variable {P:Program} {B:Nat} {w:World} {μ:Mu} {g:G} {n:Nat} {K:Cont}
theorem Qan (op:BinOp) (t:TypeId) (x y:Value) (b:Bool) (v:Value) (hx: ∀k n,x≠ .int k n) (hf: ∀k n,x≠ .float k n) (hc: ∀k n m,x≠ .complex k n m) (hs: ∀s,x≠ .string s)
  (h:(Op.equal t x y).run P w= .ok b w) {J:Value→Prop} (hk:Jdl op b J): ∃v,(binOp op t x y).run P w= .ok v w∧(∃r,v= .bool r)∧J v:=by
 cases op<;>simp only [Jdl] at hk
 case eql=>
  refine ⟨_,?_,⟨_,rfl⟩,hk⟩
  cases x<;>first|(exact absurd rfl (hx _ _))|(exact absurd rfl (hf _ _))|(exact absurd rfl (hc _ _ _))|(exact absurd rfl (hs _))|simp [binOp,h]
 case neq=>
  refine ⟨_,?_,⟨_,rfl⟩,hk⟩
  cases x<;>first|(exact absurd rfl (hx _ _))|(exact absurd rfl (hf _ _))|(exact absurd rfl (hc _ _ _))|(exact absurd rfl (hs _))|simp [binOp,h]
theorem Zek {op:BinOp} (t:TypeId) {k:IntKind} {a b:Int} {v:Value} (h:evS P (binOp op t (.int k a) (.int k b))=some v):(binOp op t (.int k a) (.int k b)).run P w= .ok v w:=Qfk h w
theorem Qbn {t:TypeId} {x y:Value} {r:Bool} (h: ∀d,(Op.equalIn (d+1) t x y).run P w= .ok r w):(Op.equal t x y).run P w= .ok r w:=h 9999
theorem Xde {t:TypeId} {x y:Value} {r:Bool} (q:Nat) (h: ∀d,q≤d→(Op.equalIn d t x y).run P w= .ok r w) (hq:q≤Op.maxDepth:=by decide):(Op.equal t x y).run P w= .ok r w:=h _ hq
theorem Qe8 {t:TypeId} (h:ZeM P t= .bool):P.underlying t=some .bool:=by
 unfold ZeM at h
 split at h<;>first|assumption|(cases h)|(split at h<;>cases h)
theorem XfE {t:TypeId} (h:ZeM P t= .ptr): ∃e,P.underlying t=some (.pointer e):=by
 unfold ZeM at h
 split at h<;>first|exact ⟨_, ‹_›⟩|(cases h)|(split at h<;>cases h)
theorem Zep {t:TypeId} (h:ZeM P t= .slice): ∃e,P.underlying t=some (.slice e):=by
 unfold ZeM at h
 split at h<;>first|exact ⟨_, ‹_›⟩|(cases h)|(split at h<;>cases h)
theorem JfJ {t:TypeId} {ks:List LK} (h:ZeM P t= .agg ks):JfC P 6 t=some ks∧P.eqGuardType P.depth t=false:=by
 unfold ZeM at h
 split at h
 all_goals first|(cases h;done)|skip
 all_goals
  split at h
  ·rename_i h1 h2;cases h;exact ⟨h1,h2⟩
  ·cases h
theorem Xfo {t:TypeId} {X Y:Operand} {op:BinOp} {x y x' y':Value} (hx:VR μ x x') (hy:VR μ y y') {J:Value→Prop} (h:Xb (ZeM P t) op x y J):
  ∃v,((do eqGuard op t X Y x' y';binOp op t x' y':Sem Value)).run P w= .ok v w∧VR μ v v∧J v:=by
 unfold Xb at h
 split at h
 ·
  split at h
  ·rename_i k a k' b
   cases hx;cases hy
   obtain ⟨hkk,h⟩:=h
   have hg: ∀op,eqGuard op t X Y (.int k a) (.int k' b)=pure ():=fun op=>by cases op<;>rfl
   simp only [hg,pure_bind]
   cases op<;>simp only [ZF] at h hkk
   case shl=>
    refine ⟨_,?_,.int _ _,h.2⟩
    simp only [binOp,Op.shift]
    rw [if_neg (by omega)];rfl
   case shr=>
    refine ⟨_,?_,.int _ _,h.2⟩
    simp only [binOp,Op.shift]
    rw [if_neg (by omega)];rfl
   case quo=>subst hkk;exact ⟨_,by simp [binOp,Op.intDiv,h.1],.int _ _,h.2⟩
   case rem=>subst hkk;exact ⟨_,by simp [binOp,Op.intDiv,h.1],.int _ _,h.2⟩
   all_goals
    subst hkk
    first
     |(refine ⟨_,Zek _ ?_,.int _ _,h⟩;cases k<;>rfl)
     |(refine ⟨_,Zek _ ?_,.bool _,h⟩;cases k<;>rfl)
  ·exact h.elim
 ·rename_i he
  have hu:=Qe8 he
  split at h
  ·rename_i a b
   cases hx;cases hy
   have hg: ∀op,eqGuard op t X Y (.bool a) (.bool b)=pure ():=fun op=>by cases op<;>rfl
   simp only [hg,pure_bind]
   obtain ⟨v,h1,⟨r,rfl⟩,h3⟩:=Qan (P:=P) (w:=w) op t (.bool a) (.bool b) _ undef (by simp) (by simp) (by simp) (by simp) (run_equal_bool w t a b hu) h
   exact ⟨_,h1,.bool r,h3⟩
  ·exact h.elim
 ·rename_i he
  obtain ⟨e,hu⟩:=XfE he
  split at h
  ·rename_i q
   cases hx
   have hg: ∀op,eqGuard op t X Y (.pointer none) y'=pure ():=fun op=>by cases op<;>rfl
   simp only [hg,pure_bind]
   have hq: ∃q',y'= .pointer q'∧q'.isNone=q.isNone:=by cases hy<;>exact ⟨_,rfl,rfl⟩
   obtain ⟨q',rfl,hq'⟩:=hq
   obtain ⟨v,h1,⟨r,rfl⟩,h3⟩:=Qan (P:=P) (w:=w) op t (.pointer none) (.pointer q') q.isNone undef (by simp) (by simp) (by simp) (by simp)
    (Qbn fun d=>by simp [Op.equalIn,run_underlying hu,hq']) h
   exact ⟨_,h1,.bool r,h3⟩
  ·rename_i a
   cases hy
   have hq: ∃a',x'= .pointer (some a'):=by cases hx;exact ⟨_,rfl⟩
   obtain ⟨a',rfl⟩:=hq
   have hg: ∀op,eqGuard op t X Y (.pointer (some a')) (.pointer none)=pure ():=fun op=>by cases op<;>rfl
   simp only [hg,pure_bind]
   obtain ⟨v,h1,⟨r,rfl⟩,h3⟩:=Qan (P:=P) (w:=w) op t (.pointer (some a')) (.pointer none) false undef (by simp) (by simp) (by simp) (by simp)
    (Qbn fun d=>by simp [Op.equalIn,run_underlying hu]) h
   exact ⟨_,h1,.bool r,h3⟩
  ·exact h.elim
 ·rename_i he
  obtain ⟨e,hu⟩:=Zep he
  split at h
  ·rename_i a n c _ _
   have hq: ∃n' c',y'= .slice none n' c':=by cases hy;exact ⟨_,_,rfl⟩
   obtain ⟨n1,c1,rfl⟩:=hq
   have hq: ∃a' n' c',x'= .slice a' n' c'∧a'.isNone=a.isNone:=by cases hx<;>exact ⟨_,_,_,rfl,rfl⟩
   obtain ⟨a',n2,c2,rfl,hn⟩:=hq
   have hg: ∀op,eqGuard op t X Y (.slice a' n2 c2) (.slice none n1 c1)=pure ():=fun op=>by cases op<;>rfl
   simp only [hg,pure_bind]
   obtain ⟨v,h1,⟨r,rfl⟩,h3⟩:=Qan (P:=P) (w:=w) op t (.slice a' n2 c2) (.slice none n1 c1) a.isNone undef (by simp) (by simp) (by simp) (by simp)
    (Qbn fun d=>by rw [←hn];cases a'<;>simp [Op.equalIn,run_underlying hu]) h
   exact ⟨_,h1,.bool r,h3⟩
  ·exact h.elim
 ·rename_i ks he
  obtain ⟨hk,hgt⟩:=JfJ he
  split at h
  ·rename_i xs ys
   split at h
   ·rename_i r hr
    obtain ⟨xs',rfl,hxs⟩:=hx.agg_inv
    obtain ⟨ys',rfl,hys⟩:=hy.agg_inv
    obtain ⟨e1,e2⟩:=QbX hr hxs hys
    have e1:xs'=xs:=by simpa using congrArg List.toArray e1
    have e2:ys'=ys:=by simpa using congrArg List.toArray e2
    subst e1;subst e2
    have heq:(Op.equal t (.agg xs') (.agg ys')).run P w= .ok r w:=by
     refine Xde 6 fun d hd=> ?_
     rcases JcS 6 t ks hk d xs'.toList ys'.toList r w hd hr with ⟨_,h⟩|⟨⟨x,hx,hn1,hn2⟩,_⟩
     ·simpa using h
     ·exfalso
      unfold ZeM at he
      rw [hx] at he
      cases x<;>simp_all
    obtain ⟨v,h1,⟨q,rfl⟩,h3⟩:=Qan (P:=P) (w:=w) op t (.agg xs') (.agg ys') r undef (by simp) (by simp) (by simp) (by simp) heq h
    refine ⟨_,?_,.bool q,h3⟩
    rw [Sem.run_bind,run_eqGuard_agg w op t X Y xs' ys' hgt,Result.andThen_ok,h1]
   ·exact h.elim
  ·exact h.elim
 ·split at h
  ·rename_i a b
   cases hx;cases hy
   have hg: ∀op,eqGuard op t X Y (.string a) (.string b)=pure ():=fun op=>by cases op<;>rfl
   simp only [hg,pure_bind]
   have hbe:(a==b)=(a.toList==b.toList):=by
    rw [Bool.eq_iff_iff,MapKept.bytes_beq,ByteArray.toList_eq,ByteArray.toList_eq,beq_iff_eq]
    constructor
    ·rintro rfl;rfl
    ·intro h
     cases a;cases b
     simp only at h
     congr 1
     exact Array.ext' h
   rw [hbe] at h
   cases op<;>simp only [Jdl] at h<;>first|exact h.elim|exact ⟨_,rfl,.bool _,h⟩
  ·exact h.elim
 ·exact h.elim
theorem ZfA {op:UnOp} {x x':Value} (hx:VR μ x x') {J:Value→Prop} (h:kUn op x J): ∃v,(Op.unary op x').run P w= .ok v w∧VR μ v v∧J v:=by
 unfold kUn at h
 split at h
 ·cases hx;exact ⟨_,rfl,.bool _,h⟩
 ·cases hx;exact ⟨_,rfl,.int _ _,h⟩
 ·exact h.elim
theorem Xep {src dst:TypeId} {d:TypeDesc} {k:IntKind} (h1:P.underlying src=some d) (h2:P.underlying dst=some (.int k)) {x x':Value} (hx:VR μ x x') {J:Value→Prop} (h:Xch k x J):
  ∃v,(convert src dst x').run P w= .ok v w∧VR μ v v∧J v:=by
 unfold Xch at h
 split at h
 ·cases hx
  refine ⟨_,?_,.int _ _,h⟩
  simp [convert,run_underlying h1,run_underlying h2,Conv.intToInt]
 ·exact h.elim
theorem Qcz {s:TypeId} {fs:Array Field} {f:Nat} {fd:Field} {i:TypeInfo} (hu:P.underlying s=some (.struct fs)) (hf:fs[f]? =some fd) (hi:P.info? fd.type=some i) (hz:i.size≠0)
  {x x':Value} (hx:VR μ x x') {J:Value→Prop} (h:Zas x fd.offset J): ∃v v',(Instr.fieldAt s x' f).run P w= .ok v' w∧VR μ v v'∧J v:=by
 obtain ⟨l,o,m,rfl,hm,rfl,h⟩:=Jcn hx h
 refine ⟨_,_,?_,VR.ptr (o+fd.offset) hm,h⟩
 simp [Instr.fieldAt,run_underlying hu,hf,Instr.sureAddr,fieldPlace,Je hi,hz,Ja7,Nat.add_assoc]
theorem JcL {t e:TypeId} {i:TypeInfo} (hu:P.underlying t=some (.slice e)) (hi:P.info? e=some i) {x x' y y':Value} (hx:VR μ x x') (hy:VR μ y y') {J:Value→Prop} (h:Jc x y i.size J):
  ∃v v',(Instr.indexAt t x' y').run P w= .ok v' w∧VR μ v v'∧J v:=by
 unfold Jc at h
 split at h
 ·rename_i l o len c k j
  cases hy
  obtain ⟨h0,h1,h⟩:=h
  have hx': ∃m c',μ l=some m∧x'= .slice (some ⟨m.b,m.s+o,none⟩) len c'∨len=0:=by
   cases hx with
   | @slx _ m _ _ _ o' hc hn hm ho=>
    rcases ho with rfl|rfl
    ·exact ⟨m,c,.inl ⟨hm,rfl⟩⟩
    ·exact ⟨m,0,.inr (by omega)⟩
   | @sll _ m _ q _ c' o' hm h1 h2 h3 ho=>
    rcases ho with rfl|rfl
    ·exact ⟨m,c',.inl ⟨hm,rfl⟩⟩
    ·exact ⟨m,0,.inr (by omega)⟩
  obtain ⟨m,c',⟨hm,rfl⟩|h0⟩:=hx'
  ·refine ⟨_,_,?_,VR.ptr (o+j.toNat*i.size) hm,h⟩
   have hlt:j<(len:Int):=h1
   simp [Instr.indexAt,asIntOf,run_underlying hu,h0,hlt,Je hi,Ja7,Nat.add_assoc]
  ·omega
 ·exact h.elim
end Go.Proofs.YtmchcjaomcdbmaaGreat.Abs
namespace Go.Proofs.YtmchcjaomcdbmaaGreat.Abs
open Go Go.RowKit
variable {P:Program} {B:Nat} {w:World} {μ:Mu} {g:G} {n:Nat} {K:Cont}
theorem QcO {t e:TypeId} {len:Nat} {i:TypeInfo} (hu:P.underlying t=some (.array len e)) (hi:P.info? e=some i) {x x' y y':Value} (hx:VR μ x x') (hy:VR μ y y') {J:Value→Prop} (h:ZD x y len i.size J):
  ∃v v',(Instr.indexAt t x' y').run P w= .ok v' w∧VR μ v v'∧J v:=by
 unfold ZD at h
 split at h
 ·rename_i l o k j
  cases hy
  cases hx with
  | @ptr _ m _ hm=>
   obtain ⟨h0,h1,h⟩:=h
   refine ⟨_,_,?_,VR.ptr (o+j.toNat*i.size) hm,h⟩
   simp [Instr.indexAt,asIntOf,run_underlying hu,h0,h1,Je hi,Ja7,Nat.add_assoc,Instr.sureAddr]
 ·exact h.elim
theorem ZcT {ty:TypeId} {cs:List Value} {ds:Array Value} (hr:VRs μ cs ds.toList) {off:Nat} {J:Value→Prop} (h:Xak P ty fun a=>XaH cs off a J):
  ∃v v',(part ty ds off).run P w= .ok v' w∧VR μ v v'∧J v:=by
 rcases ZaD h with ⟨i,hi,ha,hj⟩|⟨i,hi,_,ha,hj⟩
 ·obtain ⟨hle,hj⟩:=hj
  refine ⟨_,.agg (ds.extract off (off+i.size)),by simp [part,ha,Je hi],?_,hj⟩
  have:=((hr.drop off).take i.size).agg
  have e:ds.extract off (off+i.size)=((ds.toList.drop off).take i.size).toArray:=by
   apply Array.ext'
   simp [List.extract_eq_take_drop]
  rw [e];exact this
 ·obtain ⟨v,hv,hj⟩:=QaZ hj
  obtain ⟨v',hv',hvr⟩:=hr.get off v hv
  have hv'':ds[off]? =some v':=by simpa using hv'
  exact ⟨v,v',by simp [part,ha,hv''],hvr,hj⟩
theorem XdL {xt:TypeId} {fs:Array Field} {f:Nat} {fd:Field} (hu:P.underlying xt=some (.struct fs)) (hf:fs[f]? =some fd) {x x':Value} (hx:VR μ x x') {J:Value→Prop}
  (h:Xak P fd.type fun a=>Jl x fun cs=>XaH cs fd.offset a J): ∃v v',(Instr.field xt x' f).run P w= .ok v' w∧VR μ v v'∧J v:=by
 have hagg: ∃cs,x= .agg cs:=by
  rcases ZaD h with ⟨i,_,_,hj⟩|⟨i,_,_,_,hj⟩<;>(obtain ⟨cs,rfl,_⟩:=Za0 hj;exact ⟨cs,rfl⟩)
 obtain ⟨cs,rfl⟩:=hagg
 obtain ⟨ds,rfl,hds⟩:=hx.agg_inv
 obtain ⟨v,v',h1,h2,h3⟩:=ZcT (P:=P) (w:=w) (ty:=fd.type) (J:=J) hds (off:=fd.offset) (by simpa [Jl] using h)
 exact ⟨v,v',by simp [Instr.field,run_underlying hu,hf,asAgg,h1],h2,h3⟩
theorem JdX {xt e:TypeId} {len:Nat} {i:TypeInfo} (hu:P.underlying xt=some (.array len e)) (hi:P.info? e=some i) {x x' y y':Value} (hx:VR μ x x') (hy:VR μ y y') {J:Value→Prop}
  (h:Xak P e fun a=>Xdl x y len i.size a J): ∃v v',(Instr.index xt x' y').run P w= .ok v' w∧VR μ v v'∧J v:=by
 have hagg: ∃cs k j,x= .agg cs∧y= .int k j∧0≤j∧j<len∧Xak P e fun a=>XaH cs.toList (j.toNat*i.size) a J:=by
  have inv: ∀a,Xdl x y len i.size a J→ ∃cs k j,x= .agg cs∧y= .int k j∧0≤j∧j<len∧XaH cs.toList (j.toNat*i.size) a J:=by
   intro a ha
   obtain ⟨cs,rfl,ha⟩:=Za0 ha
   obtain ⟨k,j,rfl,h0,h1,ha⟩:=Xa2 ha
   exact ⟨cs,k,j,rfl,rfl,h0,h1,ha⟩
  unfold Xak JbS at h ⊢
  split at h
  ·split at h
   ·obtain ⟨cs,k,j,h1,h2,h3,h4,h5⟩:=inv _ h;exact ⟨cs,k,j,h1,h2,h3,h4,h5⟩
   ·exact h.elim
  ·split at h
   ·obtain ⟨cs,k,j,h1,h2,h3,h4,h5⟩:=inv _ h;exact ⟨cs,k,j,h1,h2,h3,h4,h5⟩
   ·exact h.elim
  ·split at h
   ·split at h
    ·obtain ⟨cs,k,j,h1,h2,h3,h4,h5⟩:=inv _ h;exact ⟨cs,k,j,h1,h2,h3,h4,by simp [*]⟩
    ·exact h.elim
   ·exact h.elim
  ·exact h.elim
 obtain ⟨cs,k,j,rfl,rfl,h0,h1,h⟩:=hagg
 obtain ⟨ds,rfl,hds⟩:=hx.agg_inv
 cases hy
 obtain ⟨v,v',e1,e2,e3⟩:=ZcT (P:=P) (w:=w) hds h
 exact ⟨v,v',by simp [Instr.index,asIntOf,run_underlying hu,h0,h1,Je hi,e1],e2,e3⟩
theorem Zdl {x x':Value} {i:Nat} (hx:VR μ x x') {J:Value→Prop} (h:Xd x i J): ∃v v',(Instr.extract x' i).run P w= .ok v' w∧VR μ v v'∧J v:=by
 unfold Xd at h
 split at h
 ·rename_i vs
  obtain ⟨v,hv,hj⟩:=QaZ h
  cases hx with
  | @tuple _ ys hs hr=>
   have hlt:i<vs.toList.length:=(List.getElem?_eq_some_iff.1 hv).1
   have hlt2:i<ys.size:=by simp at hlt;omega
   refine ⟨v,ys[i],by simp [Instr.extract,hlt2],hr i v ys[i] (by simpa using hv) (by simp [hlt2]),hj⟩
 ·exact h.elim
theorem Xff {tys:Array TypeId} {ty t e:TypeId} (h0:tys[0]? =some t) (hu:P.underlying t=some (.slice e)) {x x':Value} (r:Array Value) (hx:VR μ x x') {J:Value→Prop} (hr:r[0]? =some x') (h:ZaH x J):
  ∃v,(Builtin.len_ tys ty r).run P w= .ok v w∧VR μ v v∧J v:=by
 unfold ZaH at h
 split at h
 ·rename_i a k c
  have: ∃a' c',x'= .slice a' k c':=by cases hx<;>exact ⟨_,_,rfl⟩
  obtain ⟨a',c',rfl⟩:=this
  refine ⟨_,?_,.int _ _,h⟩
  simp [Builtin.len_,h0,hr,run_underlying hu,goInt]
 ·exact h.elim
theorem ZL {x:Option Value} {d m:Nat} {J:Nat→Prop} (h:XJ x d m J):(x=none∧J d)∨(∃k i,x=some (.int k i)∧0≤i∧i≤m∧J i.toNat):=by
 unfold XJ at h
 split at h
 ·exact .inl ⟨rfl,h⟩
 ·obtain ⟨k,i,rfl,h0,h1,h⟩:=Xa2 h
  exact .inr ⟨k,i,rfl,h0,h1,h⟩
theorem Zfg {k:IntKind} {i:Int} {m:Nat} {code:BoundsCode} (h0:0≤i) (h1:i≤m):(Instr.sliceBound (.int k i) m code).run P w= .ok i.toNat w:=by
 simp [Instr.sliceBound,asIntOf,h0,h1]
inductive JcZ:Option Value→Option Value→Prop
 | none:JcZ none none
 | some (k:IntKind) (i:Int):JcZ (some (.int k i)) (some (.int k i))
theorem XeV {t:Env} {a:Act} {N:Nat} (he:EnvR μ N t a) (x:Option Operand) (hok: ∀o,x=some o→Zc4 o=true) (h: ∀v,x.map (ev t)=some v→ ∃k i,v= .int k i):JcZ (x.map (ev t)) (x.map a.eval):=by
 cases x with
 | none=>exact .none
 | some o=>
  obtain ⟨k,i,hv⟩:=h _ rfl
  have:=he.ev (hok o rfl)
  rw [hv] at this
  simp only [Option.map_some,hv]
  cases ha:a.eval o<;>rw [ha] at this<;>cases this
  exact .some k i
theorem ZX {x:Option Value} {d m:Nat} {J:Nat→Prop} (h:XJ x d m J): ∀v,x=some v→ ∃k i,v= .int k i:=by
 rcases ZL h with ⟨rfl,_⟩|⟨k,i,rfl,_⟩
 ·intro v hv;cases hv
 ·intro v hv;cases hv;exact ⟨k,i,rfl⟩
theorem QX {len cap m h l:Nat} {lo hi mx:Option Value}
  (hm:(mx=none∧m=cap)∨(∃k i,mx=some (.int k i)∧0≤i∧i≤cap∧m=i.toNat))
  (hh:(hi=none∧mx=none∧h=len)∨(∃k i,hi=some (.int k i)∧0≤i∧i≤m∧h=i.toNat))
  (hl:(lo=none∧l=0)∨(∃k i,lo=some (.int k i)∧0≤i∧i≤h∧l=i.toNat)):
  (Instr.sliceBounds true len cap lo hi mx).run P w= .ok (l,h,m) w:=by
 rcases hm with ⟨rfl,rfl⟩|⟨k1,i1,rfl,a1,b1,rfl⟩<;>rcases hh with ⟨rfl,hmx,rfl⟩|⟨k2,i2,rfl,a2,b2,rfl⟩<;>rcases hl with ⟨rfl,rfl⟩|⟨k3,i3,rfl,a3,b3,rfl⟩<;>
  first
   |(exfalso;simp at hmx;done)
   | simp only [Instr.sliceBounds,Sem.run_bind,Sem.run_pure,Result.andThen_ok,Zfg, *]
theorem ZdN {ty e:TypeId} {i:TypeInfo} (hu:P.underlying ty=some (.slice e)) (hi:P.info? e=some i) {x x':Value} (hx:VR μ x x') {lo hi' mx lo2 hi2 mx2:Option Value}
  (hlo:(∀v,lo=some v→ ∃k i,v= .int k i)→JcZ lo lo2) (hhi:(∀v,hi'=some v→ ∃k i,v= .int k i)→JcZ hi' hi2) (hmx:(∀v,mx=some v→ ∃k i,v= .int k i)→JcZ mx mx2)
  (hform:mx≠none→hi'≠none) {J:Value→Prop}
  (h:Xu x lo hi' mx i.size J): ∃v v',(Instr.sliceAt ty x' lo2 hi2 mx2).run P w= .ok v' w∧VR μ v v'∧J v:=by
 have run: ∀(a:Option Addr) (len cap l h m:Nat),(Instr.sliceBounds true len cap lo2 hi2 mx2).run P w= .ok (l,h,m) w→
   (Instr.sliceAt ty (.slice a len cap) lo2 hi2 mx2).run P w= .ok (.slice (if m=l then a else a.map (·.add (l*i.size))) (h-l) (m-l)) w:=by
  intro a len cap l h m hb
  simp [Instr.sliceAt,Instr.slice,run_underlying hu,hb,Je hi]
 unfold Xu at h
 split at h
 ·rename_i a len c
  split at h
  ·rename_i hc
   have hm:=ZL h
   have hmx':=hmx (ZX h)
   have hh: ∀m,(XJ hi' len m fun h=>XJ lo 0 h fun l=>J (.slice (if m=l then a else a.map (·.add (l*i.size))) (h-l) (m-l)))→
     (mx=none→len≤m)→(Instr.sliceBounds true len c none none none).run P w=(Instr.sliceBounds true len c none none none).run P w→
     ((mx2=none∧m=c)∨(∃k i,mx2=some (.int k i)∧0≤i∧i≤c∧m=i.toNat))→
     ∃l h,(Instr.sliceBounds true len c lo2 hi2 mx2).run P w= .ok (l,h,m) w∧l≤h∧h≤m∧J (.slice (if m=l then a else a.map (·.add (l*i.size))) (h-l) (m-l)):=by
    intro m hk hlen _ hmm
    have hhi':=hhi (ZX hk)
    rcases ZL hk with ⟨rfl,hq⟩|⟨k2,i2,rfl,a2,b2,hq⟩
    ·have hlo':=hlo (ZX hq)
     have hmn:mx=none:=Classical.byContradiction fun e=>hform e rfl
     cases hhi'
     rcases ZL hq with ⟨rfl,hz⟩|⟨k3,i3,rfl,a3,b3,hz⟩
     ·cases hlo'
      refine ⟨0,len,QX hmm (.inl ⟨rfl,?_,rfl⟩) (.inl ⟨rfl,rfl⟩),Nat.zero_le _,hlen hmn,hz⟩
      subst hmn;cases hmx';rfl
     ·cases hlo'
      refine ⟨_,len,QX hmm (.inl ⟨rfl,?_,rfl⟩) (.inr ⟨k3,i3,rfl,a3,b3,rfl⟩),by omega,hlen hmn,hz⟩
      subst hmn;cases hmx';rfl
    ·have hlo':=hlo (ZX hq)
     cases hhi'
     rcases ZL hq with ⟨rfl,hz⟩|⟨k3,i3,rfl,a3,b3,hz⟩
     ·cases hlo'
      exact ⟨0,_,QX hmm (.inr ⟨k2,i2,rfl,a2,b2,rfl⟩) (.inl ⟨rfl,rfl⟩),Nat.zero_le _,by omega,hz⟩
     ·cases hlo'
      exact ⟨_,_,QX hmm (.inr ⟨k2,i2,rfl,a2,b2,rfl⟩) (.inr ⟨k3,i3,rfl,a3,b3,rfl⟩),by omega,by omega,hz⟩
   have hlc:len≤c:=by cases hx<;>first|omega|(simp only [LC] at hc;omega)
   have fin: ∃m l h,(Instr.sliceBounds true len c lo2 hi2 mx2).run P w= .ok (l,h,m) w∧l≤h∧h≤m∧m≤c∧J (.slice (if m=l then a else a.map (·.add (l*i.size))) (h-l) (m-l)):=by
    rcases hm with ⟨rfl,hm⟩|⟨k1,i1,rfl,a1,b1,hm⟩
    ·cases hmx'
     obtain ⟨l,h',e1,e2,e3,e4⟩:=hh c hm (fun _=>hlc) rfl (.inl ⟨rfl,rfl⟩)
     exact ⟨c,l,h',e1,e2,e3,Nat.le_refl _,e4⟩
    ·cases hmx'
     obtain ⟨l,h',e1,e2,e3,e4⟩:=hh _ hm (fun e=>by cases e) rfl (.inr ⟨k1,i1,rfl,a1,b1,rfl⟩)
     exact ⟨_,l,h',e1,e2,e3,by omega,e4⟩
   obtain ⟨m,l,h',e1,e2,e3,e4,e5⟩:=fin
   cases hx with
   | nilslice=>
    refine ⟨_,_,run none 0 0 l h' m e1,?_,e5⟩
    have:m=0:=by omega
    subst this
    have:h'-l=0:=by omega
    rw [this,Nat.zero_sub]
    split<;>exact .nilslice
   | @slx l0 p o _ _ o' _ hn hp ho=>
    refine ⟨_,_,run _ _ _ l h' m e1,?_,e5⟩
    by_cases hml:m=l
    ·simp only [hml,if_true]
     exact .slx o _ _ _ (by simp [LC]) (by omega) hp (.inr (by omega))
    ·rcases ho with rfl|rfl
     ·simp only [hml,if_false,Option.map_some,Ja7]
      exact .slx _ _ _ _ (by omega) (by omega) hp (.inl (by rw [Nat.add_assoc]))
     ·omega
   | sll=>simp only [LC] at hc;omega
  ·rename_i hc
   obtain ⟨rfl,h⟩:=h
   have hx': ∃l0 p o j c' o',a=some ⟨l0,o,none⟩∧x'= .slice (some ⟨p.b,o',none⟩) len c'∧μ l0=some p∧p.z=i.size∧o=j*p.z∧j+c'=p.K∧len≤c'∧(o'=p.s+o∨c'=0):=by
    generalize hcc:LC+i.size=cc at hx hc
    cases hx with
    | nilslice=>simp only [LC] at hcc;omega
    | slx=>omega
    | @sll l0 p o j _ c' o' hp h1 h2 h3 h4=>exact ⟨l0,p,o,j,c',o',rfl,rfl,hp,by omega,h1,h2,h3,h4⟩
   obtain ⟨l0,p,o,j,c',o',rfl,rfl,hp,hpz,h1,h2,h3,h4⟩:=hx'
   split at h
   ·cases hmx (by intro v hv;cases hv)
    have hhi':=hhi (ZX h)
    have fin: ∃l h,(Instr.sliceBounds true len c' lo2 hi2 none).run P w= .ok (l,h,c') w∧l≤h∧h≤len∧J (.slice (some (Addr.add ⟨l0,o,none⟩ (l*i.size))) (h-l) (LC+i.size)):=by
     rcases ZL h with ⟨rfl,hq⟩|⟨k2,i2,rfl,a2,b2,hq⟩
     ·have hlo':=hlo (ZX hq)
      cases hhi'
      rcases ZL hq with ⟨rfl,hz⟩|⟨k3,i3,rfl,a3,b3,hz⟩
      ·cases hlo'
       exact ⟨0,len,QX (.inl ⟨rfl,rfl⟩) (.inl ⟨rfl,rfl,rfl⟩) (.inl ⟨rfl,rfl⟩),Nat.zero_le _,Nat.le_refl _,hz⟩
      ·cases hlo'
       exact ⟨_,len,QX (.inl ⟨rfl,rfl⟩) (.inl ⟨rfl,rfl,rfl⟩) (.inr ⟨k3,i3,rfl,a3,b3,rfl⟩),by omega,Nat.le_refl _,hz⟩
     ·have hlo':=hlo (ZX hq)
      cases hhi'
      rcases ZL hq with ⟨rfl,hz⟩|⟨k3,i3,rfl,a3,b3,hz⟩
      ·cases hlo'
       exact ⟨0,_,QX (.inl ⟨rfl,rfl⟩) (.inr ⟨k2,i2,rfl,a2,by omega,rfl⟩) (.inl ⟨rfl,rfl⟩),Nat.zero_le _,by omega,hz⟩
      ·cases hlo'
       exact ⟨_,_,QX (.inl ⟨rfl,rfl⟩) (.inr ⟨k2,i2,rfl,a2,by omega,rfl⟩) (.inr ⟨k3,i3,rfl,a3,b3,rfl⟩),by omega,by omega,hz⟩
    obtain ⟨l,h',e1,e2,e3,e5⟩:=fin
    refine ⟨_,_,run _ _ _ l h' c' e1,?_,e5⟩
    rw [←hpz,Ja7]
    by_cases hml:c'=l
    ·simp only [hml,if_true]
     exact .sll _ (j+l) _ _ _ hp (by rw [h1,Nat.add_mul]) (by omega) (by omega) (.inr (by omega))
    ·simp only [hml,if_false,Option.map_some,Ja7]
     exact .sll _ (j+l) _ _ _ hp (by rw [h1,Nat.add_mul]) (by omega) (by omega) (.inl (by rcases h4 with rfl|rfl<;>omega))
   ·rename_i mxv
    have hmx':=hmx (ZX h)
    rcases ZL h with ⟨hcon,_⟩|⟨k1,i1,hi1,a1,b1,hmlt,h9⟩
    ·cases hcon
    cases hi1
    cases hmx'
    have hhi':=hhi (ZX h9)
    have fin: ∃l h,(Instr.sliceBounds true len c' lo2 hi2 (some (.int k1 i1))).run P w= .ok (l,h,i1.toNat) w∧l≤h∧h≤i1.toNat∧J (.slice (some (Addr.add ⟨l0,o,none⟩ (l*i.size))) (h-l) (i1.toNat-l)):=by
     rcases ZL h9 with ⟨rfl,hq⟩|⟨k2,i2,rfl,a2,b2,hq⟩
     ·exact absurd rfl (hform (by simp))
     ·have hlo':=hlo (ZX hq)
      cases hhi'
      rcases ZL hq with ⟨rfl,hz⟩|⟨k3,i3,rfl,a3,b3,hz⟩
      ·cases hlo'
       exact ⟨0,_,QX (.inr ⟨k1,i1,rfl,a1,by omega,rfl⟩) (.inr ⟨k2,i2,rfl,a2,by omega,rfl⟩) (.inl ⟨rfl,rfl⟩),Nat.zero_le _,by omega,hz⟩
      ·cases hlo'
       exact ⟨_,_,QX (.inr ⟨k1,i1,rfl,a1,by omega,rfl⟩) (.inr ⟨k2,i2,rfl,a2,by omega,rfl⟩) (.inr ⟨k3,i3,rfl,a3,b3,rfl⟩),by omega,by omega,hz⟩
    obtain ⟨l,h',e1,e2,e3,e5⟩:=fin
    refine ⟨_,_,run _ _ _ l h' _ e1,?_,e5⟩
    rw [Ja7]
    by_cases hml:i1.toNat=l
    ·simp only [hml,if_true]
     exact .slx _ _ _ _ (by simp [LC]) (by omega) hp (.inr (by omega))
    ·simp only [hml,if_false,Option.map_some,Ja7]
     exact .slx _ _ _ _ (by omega) (by omega) hp (.inl (by rcases h4 with rfl|rfl<;>first|rw [Nat.add_assoc]|omega))
 ·exact h.elim
end Go.Proofs.YtmchcjaomcdbmaaGreat.Abs
namespace Go.Proofs.YtmchcjaomcdbmaaGreat.Abs
open Go Go.RowKit
variable {P:Program} {B:Nat} {w:World} {μ:Mu} {g:G} {n:Nat} {K:Cont}
theorem Xa1 (hs:Sim μ g n w B) {x x':Value} {k z:Nat} (hx:VR μ x x') (hk:k≤lenOf x) {J:List Value→Prop} (h:J6 g x k z J):
  ∃new vs,(Builtin.firstCells z k x').run P w= .ok (List.toArray vs) w∧VRs μ new vs∧J new∧new.length=k*z:=by
 unfold J6 at h
 split at h
 ·cases hx
  exact ⟨[],[],rfl,.nil,h.2,by simp [h.1]⟩
 ·rename_i l o len c
  simp only [lenOf] at hk
  split at h
  ·rename_i hz
   have: ∃a' n' c',x'= .slice (some a') n' c':=by cases hx<;>exact ⟨_,_,_,rfl⟩
   obtain ⟨a',n',c',rfl⟩:=this
   refine ⟨[],[],?_,.nil,h,by simp [hz]⟩
   simp [Builtin.firstCells,hz,loadCells,loadCellsFrom]
  ·rename_i hz
   have hk0:0<k:=by
    rcases Nat.eq_zero_or_pos k with rfl|h
    ·simp at hz
    ·exact h
   have: ∃m c',μ l=some m∧x'= .slice (some ⟨m.b,m.s+o,none⟩) len c':=by
    cases hx with
    | @slx _ m _ _ _ o' hc hn hm ho=>
     rcases ho with rfl|rfl
     ·exact ⟨m,c,hm,rfl⟩
     ·omega
    | @sll _ m _ q _ c' o' hm h1 h2 h3 ho=>
     rcases ho with rfl|rfl
     ·exact ⟨m,c',hm,rfl⟩
     ·omega
   obtain ⟨m,c',hm,rfl⟩:=this
   obtain ⟨cs,bk,hg,hle,hj⟩:=JH h
   obtain ⟨vs,h1,h2⟩:=Xbr (P:=P) hs hg hm hle
   exact ⟨_,vs,by simpa [Builtin.firstCells] using h1,h2,hj,by simp;omega⟩
 ·exact h.elim
theorem Xaz {tys:Array TypeId} {ty tS tX e:TypeId} {e':TypeId} {i:TypeInfo} (h0:tys[0]? =some tS) (h1:tys[1]? =some tX) (hu:P.underlying tS=some (.slice e)) (hux:P.underlying tX=some (.slice e'))
  (hi:P.info? e=some i) {base:Option Addr} {len c k:Nat} {x':Value} (hlx: ∀w:World,(Builtin.lenOf x').run P w= .ok k w) {vs:List Value} (hf:(Builtin.firstCells i.size k x').run P w= .ok vs.toArray w) {w':World}
  (hroom:len+k≤c) (hst:match base with|some a=>(storeCells (a.add (len*i.size)) vs).run P w= .ok () w'|none=>w'=w) (r:Array Value) (hr0:r[0]? =some (.slice base len c)) (hr1:r[1]? =some x'):
  (Builtin.append_ tys ty r).run P w= .ok (.slice base (len+k) c) w':=by
 cases base with
 | none=>
  subst hst
  simp [Builtin.append_,h0,h1,hr0,hr1,run_underlying hu,run_underlying hux,Je hi,hlx,hroom,hf]
 | some a=>
  simp [Builtin.append_,h0,h1,hr0,hr1,run_underlying hu,run_underlying hux,Je hi,hlx,hroom,hf,hst]
theorem XbA {tys:Array TypeId} {ty tS tX e:TypeId} {e':TypeId} {i:TypeInfo} {z:Value} (h0:tys[0]? =some tS) (h1:tys[1]? =some tX) (hu:P.underlying tS=some (.slice e)) (hux:P.underlying tX=some (.slice e'))
  (hi:P.info? e=some i) (hz:i.zero=some z) {base:Option Addr} {len c k:Nat} {x':Value} (hlx: ∀w:World,(Builtin.lenOf x').run P w= .ok k w) {os vs:List Value}
  (ho:(Builtin.firstCells i.size len (.slice base len c)).run P w.drew= .ok os.toArray w.drew) (hf:(Builtin.firstCells i.size k x').run P w.drew= .ok vs.toArray w.drew)
  (hroom: ¬len+k≤c) (hbig:len+k<140737488355328) (hby:(len+k)*i.bytes≤140737488355328) (r:Array Value) (hr0:r[0]? =some (.slice base len c)) (hr1:r[1]? =some x'):
  (Builtin.append_ tys ty r).run P w= .ok (.slice (some ⟨w.heap.size,0,none⟩) (len+k) (grownCap w (len+k) c e))
   (w.drew.alloc (.cells (os++vs++(Builtin.zeroCells z.cells (grownCap w (len+k) c e-(len+k))).toList).toArray e)):=by
 have h63': ¬(9223372036854775807<((len:Int)+(k:Int))):=by omega
 have hfit:=growslice_fits (need:=len+k) (old:=c) (bytes:=i.bytes) (by omega) (by omega)
 have h48': ¬(281474976710656<Builtin.nextslicecap (len+k) c*i.bytes):=by omega
 simp [Builtin.append_,h0,h1,hr0,hr1,run_underlying hu,run_underlying hux,Je hi,Xcl hi,hlx,hroom,hf,ho,h63',h48',zeroValue,hz,Question.forced,newRow,grownCap]
 congr 2
 apply Array.ext'
 simp
theorem ZcI {x:Value} {k z:Nat} {J:List Value→Prop} (h:J6 g x k z J): ∃new,J new∧J6 g x k z (· =new):=by
 unfold J6 at h
 split at h
 ·exact ⟨[],h.2,h.1,rfl⟩
 ·rename_i l o _ _
  split at h
  ·rename_i hz;exact ⟨[],h,by simp [J6,hz]⟩
  ·rename_i hz
   obtain ⟨cs,bk,hg,hle,hj⟩:=JH h
   refine ⟨_,hj,?_⟩
   simp only [J6,hz,if_false,Zn,Zam,hg]
   exact ⟨hle,trivial⟩
 ·exact h.elim
theorem Jeu {v:Value} (h:isCell v=true):v.oneCell'=true:=by cases v<;>simp_all [isCell,Value.oneCell']
theorem VRs.cell {xs ys:List Value} (h:VRs μ xs ys) (hc: ∀v∈xs,isCell v=true): ∀v∈ys,isCell v=true:=by
 induction h with
 | nil=>intro v hv;simp at hv
 | cons hr _ ih=>
  intro v hv
  rcases List.mem_cons.1 hv with rfl|hv
  ·rw [hr.isCell];exact hc _ (by simp)
  ·exact ih (fun v hv=>hc v (by simp [hv])) v hv
theorem Xfn {x x':Value} (hx:VR μ x x') {a:Option Addr} {k c:Nat} (h:x= .slice a k c) (w:World):(Builtin.lenOf x').run P w= .ok k w:=by
 subst h;cases hx<;>rfl
theorem Qdb (hs:Sim μ g n w B) {cs ds:List Value} {z:Value} {i:TypeInfo} (hzs:z.cells.size=i.size) (hr:VRs μ cs ds) {need c:Nat} (e:TypeId) (hl:cs.length=need*i.size)
  (hk:g n=none→K (.slice (some ⟨n,0,none⟩) need (LC+i.size)) (upd g n (some (.cells cs (.loose i.size)))) (n+1)):
  Fin B w μ K (.slice (some ⟨w.heap.size,0,none⟩) need (grownCap w need c e)) (w.drew.alloc (.cells (ds++(Builtin.zeroCells z.cells (grownCap w need c e-need)).toList).toArray e)):=by
 have hge:=grownCap_ge w need c e
 generalize grownCap w need c e=cap at hge ⊢
 have hlz:((Builtin.zeroCells z.cells (cap-need)).toList).length=(cap-need)*i.size:=by simp [Builtin.zeroCells,hzs]
 have hd:(ds++(Builtin.zeroCells z.cells (cap-need)).toList).length=cap*i.size:=by
  rw [List.length_append,←hr.length,hl,hlz,←Nat.add_mul];congr 1;omega
 have hsim:=hs.drew.alloc hr (es:=(Builtin.zeroCells z.cells (cap-need)).toList) e cap i.size (.loose i.size) ⟨rfl,by rw [hd];exact Nat.le_refl _,by rw [hl];exact Nat.mul_le_mul_right _ hge⟩
 refine ⟨_,_,n+1,_,hk (hs.gdom n (Nat.le_refl n)),?_,hsim,hs.newExt _,((Below.refl B w).drew).alloc hs.base _⟩
 exact .sll (m:=⟨w.drew.heap.size,0,cap,i.size⟩) 0 0 need cap 0 (JaS _ _ _) (by simp) (by simp) hge (.inl rfl)
theorem Sub.drop (g:G) (l:Nat):Sub (Abs.upd g l none) g:=fun i=>by
 by_cases h:i=l
 ·subst h;exact .inl (by simp [Abs.upd])
 ·exact .inr (by simp [Abs.upd,h])
theorem Sim.apart (h:Sim μ g n w B) {l l':Nat} {b b':Blk} {m m':Pl} (hg:g l=some b) (hm:μ l=some m) (hr:b.rw=true) (hg':g l'=some b') (hm':μ l'=some m') (hne:l'≠l):m'.b≠m.b:=by
 intro hbb
 cases hrb:b'.rw with
 | true=>exact hne (h.inj l' l b' b m' m hg' hg hrb hr hm' hm hbb)
 | false=>
  have h1:=(h.live l b m hg hm).rw_ge hr
  cases b' with
  | map es=>simp [Blk.rw] at hrb
  | iter l c sn=>simp [Blk.rw] at hrb
  | cells cs' k'=>
   cases k' with
   | ro=>obtain ⟨_,_,_,_,_,hro⟩:=h.live l' _ m' hg' hm';simp at hro;omega
   | exact=>simp [Blk.rw] at hrb
   | loose z=>simp [Blk.rw] at hrb
theorem Jdt {tys:Array TypeId} {ty tS tX e e':TypeId} {i:TypeInfo} {z:Value} (h0:tys[0]? =some tS) (h1:tys[1]? =some tX) (hu:P.underlying tS=some (.slice e)) (hux:P.underlying tX=some (.slice e'))
  (hi:P.info? e=some i) (hz:i.zero=some z) (hzs:z.cells.size=i.size) (hs:Sim μ g n w B) {s s' x x':Value} (hvs:VR μ s s') (hvx:VR μ x x') (r:Array Value) (hr0:r[0]? =some s') (hr1:r[1]? =some x')
  (h:Q5 s x i.size i.bytes g n K): ∃v w',(Builtin.append_ tys ty r).run P w= .ok v w'∧Fin B w μ K v w':=by
 unfold Q5 at h
 split at h
 ·rename_i base len c ax k cx
  obtain ⟨hb1,hb2,hb3,h⟩:=h
  obtain ⟨new,⟨hcell,h⟩,hel⟩:=ZcI h
  obtain ⟨_,vs,hf,hvr,rfl,hln⟩:=Xa1 (P:=P) hs hvx (by simp [lenOf]) hel
  obtain ⟨new',vs',hf',hvr',hnn,_⟩:=Xa1 (P:=P) hs.drew hvx (by simp [lenOf]) hel
  subst hnn
  have hlx:=fun w=>Xfn (P:=P) hvx (rfl:Value.slice ax k cx=_) w
  split at h
  ·rename_i hc
   have hsx:s'= .slice none 0 0∧base=none∧len=0∧c=0∨ ∃l o o' m,base=some ⟨l,o,none⟩∧s'= .slice (some o') len c∧μ l=some m∧(o'=⟨m.b,m.s+o,none⟩∨c=0)∧len≤c:=by
    cases hvs with
    | nilslice=>exact .inl ⟨rfl,rfl,rfl,rfl⟩
    | @slx l m o _ _ o' _ hn hm ho=>exact .inr ⟨l,o,o',m,rfl,rfl,hm,ho,hn⟩
    | sll=>simp only [LC] at hc;omega
   split at h
   ·rename_i hroom
    rcases hsx with ⟨rfl,rfl,rfl,rfl⟩|⟨l,o,o',m,rfl,rfl,hm,ho,hn⟩
    ·obtain ⟨hnil,hk⟩:=h
     have:k=0:=by omega
     subst this
     exact ⟨_,_,Xaz h0 h1 hu hux hi hlx hf hroom rfl r hr0 hr1,Zi hs .nilslice hk⟩
    ·simp only at h
     split at h
     ·rename_i hnil
      subst hnil
      cases hvr
      refine ⟨_,_,Xaz h0 h1 hu hux hi hlx hf hroom (w':=w) (by simp [storeCells]) r hr0 hr1,Zi hs ?_ h⟩
      exact .slx o _ _ _ hc hroom hm ho
     ·rename_i hne
      have hk0:0<k:=by
       rcases Nat.eq_zero_or_pos k with rfl|h
       ·exact absurd (List.eq_nil_of_length_eq_zero (by simpa using hln)) hne
       ·exact h
      rcases ho with rfl|rfl
      ·obtain ⟨w',g',hst,hk,hs',hb⟩:=Xbp (P:=P) hs hm hvr h
       refine ⟨_,w',Xaz h0 h1 hu hux hi hlx hf hroom (w':=w') ?_ r hr0 hr1,_,g',n,μ,hk,?_,hs',Ext.refl μ,hb⟩
       ·simpa [Ja7,Nat.add_assoc] using hst
       ·exact .slx o _ _ _ hc hroom hm (.inl rfl)
      ·omega
   ·rename_i hroom
    obtain ⟨old,hk,helo⟩:=ZcI h
    obtain ⟨_,os,hfo,hvro,rfl,hlo⟩:=Xa1 (P:=P) hs.drew hvs (by simp [lenOf]) helo
    have hs'': ∃base',s'= .slice base' len c:=by rcases hsx with ⟨rfl,rfl,rfl,rfl⟩|⟨l,o,o',m,rfl,rfl,hm,ho,hn⟩<;>exact ⟨_,rfl⟩
    obtain ⟨base',rfl⟩:=hs''
    refine ⟨_,_,XbA h0 h1 hu hux hi hz hlx hfo hf' hroom hb3 hb2 r hr0 hr1,?_⟩
    exact Qdb hs hzs (hvro.append hvr') e (by rw [List.length_append,hlo,hln,Nat.add_mul]) hk
  ·rename_i hc
   split at h
   ·rename_i l o _
    obtain ⟨rfl,hq9⟩:=h
    obtain ⟨cs,bk,hg,hbk,hle,hk⟩:=JH hq9
    cases bk with
    | ro=>exact hbk.elim
    | exact=>exact hbk.elim
    | loose z'=>
    have hbk:z'=i.size:=hbk
    subst hbk
    have hx': ∃m j c' o',s'= .slice (some ⟨m.b,o',none⟩) len c'∧μ l=some m∧m.z=i.size∧o=j*m.z∧j+c'=m.K∧len≤c'∧(o'=m.s+o∨c'=0):=by
     generalize hcc:LC+i.size=cc at hvs hc
     cases hvs with
     | slx=>omega
     | @sll _ m _ j _ c' o' hp h1 h2 h3 h4=>exact ⟨m,j,c',o',rfl,hp,by omega,h1,h2,h3,h4⟩
    obtain ⟨m,j,c',o',rfl,hm,hmz,hoj,hjk,hlc,ho⟩:=hx'
    have hlive:=hs.live l _ m hg hm
    obtain ⟨cells,elem,fz,hw,hrel,hB,hfz,_,hK,hcl⟩:=hlive
    subst hfz
    have hfit:m.s+o+(len+(c'-len))*i.size≤cells.size:=by
     have e1:m.K*i.size=j*i.size+c'*i.size:=by rw [←hjk,Nat.add_mul]
     rw [show len+(c'-len)=c' by omega]
     rw [hoj,hmz];omega
    have hln':vs.length=k*i.size:=by rw [←hvr.length,hln]
    have hoz:(cs.drop o).take (len*i.size)=(cs.drop o).take (len*i.size):=rfl
    have holdlen:((cs.drop o).take (len*i.size)).length=len*i.size:=by simp;omega
    by_cases hroom:len+k≤c'
    ·
     have hfit2:m.s+o+len*i.size+vs.length≤cells.size:=by
      have:(len+k)*i.size≤c'*i.size:=Nat.mul_le_mul_right _ hroom
      rw [show len+(c'-len)=c' by omega] at hfit
      rw [Nat.add_mul] at this
      omega
     let cells':Array Value:=(cells.toList.take (m.s+o+len*i.size)++vs++cells.toList.drop (m.s+o+len*i.size+vs.length)).toArray
     have hvc: ∀v∈vs,v.oneCell'=true:=fun v hv=>Jeu (hvr.cell hcell v hv)
     have hst0:=run_storeCells_at P m.b (m.s+o+len*i.size) elem vs 0 cells w hw (by simpa using hfit2) hvc
     have hst:(storeCells ((⟨m.b,o',none⟩:Addr).add (len*i.size)) vs).run P w= .ok () (w.setRow m.b cells'):=by
      rcases ho with rfl|rfl
      ·simpa [Ja7,cells'] using hst0
      ·have:vs=[]:=List.eq_nil_of_length_eq_zero (by rw [hln',show k=0 by omega];simp)
       subst this
       have e:cells'=cells:=by simp [cells']
       rw [e,setRow_self w m.b cells elem (0,0) hw]
       simp [storeCells]
     refine ⟨_,_,Xaz h0 h1 hu hux hi hlx hf hroom (w':=w.setRow m.b cells') hst r hr0 hr1,?_⟩
     have hrw:(Blk.cells cs (.loose i.size)).rw=true:=rfl
     have hsim:=(hs.sub (Sub.drop g l)).place (w':=w.setRow m.b cells') (m:=⟨m.b,m.s+o,c',i.size⟩) (b:= .cells ((cs.drop o).take (len*i.size)++new') (.loose i.size))
      (by simp [World.setRow];exact hs.base)
      (by
       intro l' b' m' e f
       have hne:l'≠l:=fun he=>by subst he;simp [upd] at e
       rw [Xc _ _ hne] at e
       have:=hs.apart hg hm hrw e f hne
       exact ⟨this,setRow_other w m.b m'.b cells' this⟩)
      (by
       refine ⟨cells',elem,(0,0),setRow_heap w m.b cells cells' elem (0,0) hw,?_,hB,rfl,rfl,?_,?_⟩
       ·intro q v hq
        by_cases hql:q<len*i.size
        ·rw [List.getElem?_append_left (by rw [holdlen];exact hql)] at hq
         simp [hql,List.getElem?_drop] at hq
         obtain ⟨v',hv',hvv⟩:=hrel (o+q) v hq
         refine ⟨v',?_,hvv.ext ((hs.sub (Sub.drop g l)).newExt _)⟩
         have:m.s+o+q<cells.size:=by omega
         simp only [cells',List.getElem?_toArray,List.append_assoc]
         rw [List.getElem?_append_left (by simp;omega)]
         simp [show m.s+o+q<m.s+o+len*i.size by omega]
         simpa [Nat.add_assoc] using hv'
        ·rw [List.getElem?_append_right (by rw [holdlen];omega),holdlen] at hq
         obtain ⟨v',hv',hvv⟩:=hvr.get _ v hq
         refine ⟨v',?_,hvv.ext ((hs.sub (Sub.drop g l)).newExt _)⟩
         have hlt:q-len*i.size<vs.length:=(List.getElem?_eq_some_iff.1 hv').1
         have hmin:(cells.toList.take (m.s+o+len*i.size)).length=m.s+o+len*i.size:=by simp;omega
         simp only [cells',List.getElem?_toArray,List.append_assoc]
         rw [List.getElem?_append_right (by rw [hmin];omega),hmin,List.getElem?_append_left (by omega)]
         rw [←hv'];congr 1;omega
       ·have:cells'.size=cells.size:=by simp [cells'];omega
        rw [this]
        rw [show len+(c'-len)=c' by omega] at hfit
        exact hfit
       ·rw [List.length_append,holdlen,hln,←Nat.add_mul]
        exact Nat.mul_le_mul_right _ hroom)
     refine ⟨_,_,n+1,_,hk (hs.gdom n (Nat.le_refl n)),?_,hsim,(hs.sub (Sub.drop g l)).newExt _,?_⟩
     ·exact .sll (m:=⟨m.b,m.s+o,c',i.size⟩) 0 0 (len+k) c' o' (JaS _ _ _) (by simp) (by simp) hroom (by simpa using ho)
     ·exact ⟨rfl,rfl,rfl,by simp [World.setRow],fun q hq=>setRow_other w m.b q cells' (by omega)⟩
    ·
     have hfo: ∃os,(Builtin.firstCells i.size len (.slice (some ⟨m.b,o',none⟩) len c')).run P w.drew= .ok (List.toArray os) w.drew∧VRs μ ((cs.drop o).take (len*i.size)) os:=by
      rcases ho with rfl|rfl
      ·obtain ⟨os,hl1,hl2⟩:=Xbr (P:=P) hs.drew hg hm hle
       exact ⟨os,by simpa [Builtin.firstCells] using hl1,hl2⟩
      ·have:len=0:=by omega
       subst this
       exact ⟨[],by simp [Builtin.firstCells,loadCells,loadCellsFrom],by simpa using VRs.nil⟩
     obtain ⟨os,hfo,hvro⟩:=hfo
     refine ⟨_,_,XbA h0 h1 hu hux hi hz hlx hfo hf' hroom hb3 hb2 r hr0 hr1,?_⟩
     exact Qdb (hs.sub (Sub.drop g l)) hzs (hvro.append hvr') e (by rw [List.length_append,holdlen,hln,Nat.add_mul]) (fun _=>hk (hs.gdom n (Nat.le_refl n)))
   ·exact h.elim
 ·exact h.elim
theorem Qde {tys:Array TypeId} {ty tS tX e:TypeId} {kX:IntKind} {i:TypeInfo} {z:Value} (h0:tys[0]? =some tS) (h1:tys[1]? =some tX) (hu:P.underlying tS=some (.slice e)) (hux:P.underlying tX=some (.int kX))
  (hi:P.info? e=some i) (hz:i.zero=some z) (hp:plain 3 z=true) (hzs:z.cells.size=i.size) (hs:Sim μ g n w B) {s s' x x':Value} (hvs:VR μ s s') (hvx:VR μ x x') (r:Array Value) (hr0:r[0]? =some s') (hr1:r[1]? =some x')
  (h:QaI s x z.cells.toList i.bytes g n K): ∃v w',(Builtin.append_ tys ty r).run P w= .ok v w'∧Fin B w μ K v w':=by
 unfold QaI at h
 split at h
 ·rename_i a
  obtain ⟨hzp,ha0,ha1,hab,hk⟩:=h
  have hzl:z.cells.toList.length=i.size:=by simp [hzs]
  rw [hzl] at hzp
  cases hvs with
  | nilslice=>
  cases hvx
  have hw:IntKind.i64.wrap a=a:=IntWalk.i64_in a ⟨by omega,by omega⟩
  obtain ⟨k,rfl⟩: ∃k:Nat,a=(k:Int):=⟨a.toNat,by omega⟩
  simp only [Int.toNat_natCast] at hk hab
  have hfit:=growslice_fits (need:=k) (old:=0) (bytes:=i.bytes) (by omega) (by omega)
  have h48': ¬(281474976710656<Builtin.nextslicecap k 0*i.bytes):=by omega
  have hl0: ¬((k:Int)<0):=by omega
  have hbig: ¬(281474976710656<(k:Int)*(i.bytes:Int)):=by
   have:((k*i.bytes:Nat):Int)≤1099511627776:=by omega
   rw [Int.natCast_mul] at this;omega
  have h63': ¬(9223372036854775807<(k:Int)):=by omega
  have hk0: ¬(k=0):=by omega
  have hzc:(Builtin.zeroCells z.cells k).toList=reps k z.cells.toList:=Zco z.cells k _ rfl
  have run:(Builtin.append_ tys ty r).run P w= .ok (.slice (some ⟨w.heap.size,0,none⟩) k (grownCap w k 0 e))
    (w.drew.alloc (.cells (reps k z.cells.toList++(Builtin.zeroCells z.cells (grownCap w k 0 e-k)).toList).toArray e)):=by
   have hne: ¬(i.size=0):=by omega
   have hks: ¬(k*i.size=0):=by rw [Nat.mul_eq_zero];omega
   rw [←hzc]
   simp [Builtin.append_,Builtin.firstCells,h0,h1,hr0,hr1,run_underlying hu,run_underlying hux,Je hi,Xcl hi,asInt,asIntOf,hw,hl0,hbig,h63',h48',hk0,hne,zeroValue,hz,Question.forced,newRow,grownCap]
   rw [if_neg hks]
   congr 3
   simp
  refine ⟨_,_,run,?_⟩
  have hlen:(reps k z.cells.toList).length=k*i.size:=by rw [JaY];simp [hzs]
  rw [hzl] at hk
  exact Qdb hs hzs ((QbT hp).reps k) e hlen hk
 ·exact h.elim
end Go.Proofs.YtmchcjaomcdbmaaGreat.Abs
namespace Go.Proofs.YtmchcjaomcdbmaaGreat.Abs
open Go Go.RowKit
variable {P:Program} {B:Nat} {w:World} {μ:Mu} {g:G} {n:Nat} {K:Cont}
theorem QeI {tys:Array TypeId} {ty tD e:TypeId} {i:TypeInfo} (h0:tys[0]? =some tD) (hu:P.underlying tD=some (.slice e)) (hi:P.info? e=some i) (hs:Sim μ g n w B) {d d' s s':Value} (hd:VR μ d d') (hvs:VR μ s s')
  (r:Array Value) (hr0:r[0]? =some d') (hr1:r[1]? =some s') (h:Zbk d s i.size g fun v g=>K v g n):
  ∃v w',(Builtin.copy_ tys ty r).run P w= .ok v w'∧Fin B w μ K v w':=by
 unfold Zbk at h
 split at h
 ·rename_i base len c sa k cs
  obtain ⟨new,⟨hcell,h⟩,hel⟩:=ZcI h
  obtain ⟨_,vs,hf,hvr,rfl,hln⟩:=Xa1 (P:=P) hs hvs (by simp [lenOf];omega) hel
  have hlx:=Xfn (P:=P) hvs (rfl:Value.slice sa k cs=_) w
  have run: ∀(base':Option Addr) (c':Nat) (w':World),d'= .slice base' len c'→(match base' with|some a=>(storeCells a vs).run P w= .ok () w'|none=>w'=w)→
    (Builtin.copy_ tys ty r).run P w= .ok (goInt (min k len:Nat)) w':=by
   intro base' c' w' hd' hst
   subst hd'
   have hf':(Builtin.firstCells i.size (Nat.min k len) s').run P w= .ok vs.toArray w:=hf
   cases base' with
   | none=>subst hst;simp [Builtin.copy_,h0,hr0,hr1,run_underlying hu,hlx,Je hi,hf']
   | some a=>simp [Builtin.copy_,h0,hr0,hr1,run_underlying hu,hlx,Je hi,hf',hst]
  cases base with
  | none=>
   cases hd
   exact ⟨_,_,run none 0 w rfl rfl,Zi hs (.int _ _) h⟩
  | some a=>
   obtain ⟨l,o,sp⟩:=a
   have hsp:sp=none:=by cases hd<;>rfl
   subst hsp
   simp only at h
   have hx: ∃m c' o',d'= .slice (some o') len c'∧μ l=some m∧(o'=⟨m.b,m.s+o,none⟩∨len=0):=by
    cases hd with
    | @slx _ m _ _ _ o' hc hn hm ho=>exact ⟨m,c,o',rfl,hm,ho.imp id fun e=>by omega⟩
    | @sll _ m _ q _ c' o' hm h1 h2 h3 ho=>exact ⟨m,c',_,rfl,hm,ho.imp (fun e=>by rw [e]) fun e=>by omega⟩
   obtain ⟨m,c',o',rfl,hm,ho⟩:=hx
   split at h
   ·rename_i hnil
    subst hnil
    cases hvr
    exact ⟨_,_,run _ c' w rfl (by simp [storeCells]),Zi hs (.int _ _) h⟩
   ·rename_i hne
    rcases ho with rfl|rfl
    ·obtain ⟨w',g',hst,hk,hs',hb⟩:=Xbp (P:=P) hs hm hvr h
     exact ⟨_,w',run _ c' w' rfl hst,_,g',n,μ,hk,.int _ _,hs',Ext.refl μ,hb⟩
    ·exact absurd (List.eq_nil_of_length_eq_zero (by rw [hln];simp)) hne
 ·exact h.elim
theorem QdO {tys:Array TypeId} {ty tD e:TypeId} {i:TypeInfo} {z:Value} (h0:tys[0]? =some tD) (hu:P.underlying tD=some (.slice e)) (hi:P.info? e=some i) (hz:i.zero=some z) (hp:plain 3 z=true) (hs:Sim μ g n w B)
  {d d':Value} (hd:VR μ d d') (r:Array Value) (hr0:r[0]? =some d') (h:Jav d z.cells.toList g fun v g=>K v g n):
  ∃v w',(Builtin.clear_ tys ty r).run P w= .ok v w'∧Fin B w μ K v w':=by
 have hzr:VRs μ z.cells.toList z.cells.toList:=QbT hp
 unfold Jav at h
 split at h
 ·cases hd
  exact ⟨undef,w,by simp [Builtin.clear_,h0,hr0,run_underlying hu];rfl,Zi hs (X9 μ) h⟩
 ·rename_i l o len c
  have hx: ∃m c' o',d'= .slice (some o') len c'∧μ l=some m∧(o'=⟨m.b,m.s+o,none⟩∨len=0):=by
   cases hd with
   | @slx _ m _ _ _ o' hc hn hm ho=>exact ⟨m,c,o',rfl,hm,ho.imp id fun e=>by omega⟩
   | @sll _ m _ q _ c' o' hm h1 h2 h3 ho=>exact ⟨m,c',_,rfl,hm,ho.imp (fun e=>by rw [e]) fun e=>by omega⟩
  obtain ⟨m,c',o',rfl,hm,ho⟩:=hx
  have hzc:(Builtin.zeroCells z.cells len).toList=reps len z.cells.toList:=Zco z.cells len _ rfl
  have run: ∀w',len≠0→(storeCells o' (reps len z.cells.toList)).run P w= .ok () w'→(Builtin.clear_ tys ty r).run P w= .ok undef w':=by
   intro w' hl hst
   obtain ⟨q,rfl⟩: ∃q,len=q+1:=⟨len-1,by omega⟩
   rw [←hzc] at hst
   simp [Builtin.clear_,h0,hr0,run_underlying hu,zeroValue,typeInfo,hi,hz,hst];rfl
  split at h
  ·rename_i hz0
   by_cases hl:len=0
   ·subst hl
    exact ⟨undef,w,by simp [Builtin.clear_,h0,hr0,run_underlying hu];rfl,Zi hs (X9 μ) h⟩
   ·have hnil:=hz0.resolve_left hl
    refine ⟨undef,w,run w hl ?_,Zi hs (X9 μ) h⟩
    have:reps len z.cells.toList=[]:=by rw [hnil];simp [reps]
    rw [this];simp [storeCells]
  ·rename_i hz0
   have hl:len≠0:=fun e=>hz0 (.inl e)
   rcases ho with rfl|rfl
   ·obtain ⟨w',g',hst,hk,hs',hb⟩:=Xbp (P:=P) hs hm (hzr.reps len) h
    exact ⟨undef,w',run w' hl hst,_,g',n,μ,hk,X9 μ,hs',Ext.refl μ,hb⟩
   ·exact absurd rfl hl
 ·exact h.elim
theorem Qeu {ty e:TypeId} {i:TypeInfo} {z:Value} (hu:P.underlying ty=some (.slice e)) (hi:P.info? e=some i) (hz:i.zero=some z) (hp:plain 3 z=true) (hzs:z.cells.size=i.size) (hs:Sim μ g n w B)
  {x x' y y':Value} (hx:VR μ x x') (hy:VR μ y y') (h:QbK x y z.cells.toList i.bytes g n K): ∃v w',(Instr.makeSlice ty x' y').run P w= .ok v w'∧Fin B w μ K v w':=by
 have hzr:VRs μ z.cells.toList z.cells.toList:=QbT hp
 obtain ⟨k1,a,rfl,hq⟩:=Xa2 h
 obtain ⟨k2,c,rfl,ha,hac,hb,hc,hk⟩:=Xa2 hq
 cases hx;cases hy
 have ea:IntKind.i64.wrap a=a:=IntWalk.i64_in a (by omega)
 have ec:IntKind.i64.wrap c=c:=IntWalk.i64_in c (by omega)
 have hcl:c.toNat<LC:=by simp only [LC];omega
 refine ⟨_,_,?_,Qc1 hs (hzr.reps c.toNat) e hcl (by omega) hk⟩
 have hcb:(i.bytes:Int)*c≤1099511627776:=by rw [Int.mul_comm];exact hb
 have hab:(i.bytes:Int)*a≤(i.bytes:Int)*c:=Int.mul_le_mul_of_nonneg_left hac (by omega)
 have hzv:(zeroValue e).run P w= .ok z w:=by simp [zeroValue,typeInfo,hi,hz]
 have h1: ¬(c<0):=by omega
 have h2: ¬(281474976710656<(i.bytes:Int)*c):=by omega
 have h3: ¬(a<0):=by omega
 have h4: ¬(c<a):=by omega
 have hm:(max 0 c).toNat=c.toNat:=by congr 1;omega
 by_cases h0:c.toNat*i.size=0
 ·have hr:reps c.toNat z.cells.toList=[]:=by
   apply List.eq_nil_of_length_eq_zero
   rw [JaY];simp only [Array.length_toList,hzs,h0]
  rw [hr]
  simp [Instr.makeSlice,run_underlying hu,asInt,asIntOf,Xcl hi,ea,ec,h1,h2,h3,h4,Je hi,h0,newRow,Array.range_zero']
 ·have hr:=Zco z.cells c.toNat (c.toNat*i.size) (by rw [hzs])
  rw [←hr]
  simp [Instr.makeSlice,run_underlying hu,asInt,asIntOf,Xcl hi,ea,ec,h1,h2,h3,h4,Je hi,h0,newRow,hzv]
  congr 2
  apply Array.ext'
  simp
end Go.Proofs.YtmchcjaomcdbmaaGreat.Abs
namespace Go.Proofs.YtmchcjaomcdbmaaGreat.Abs
open Go Go.RowKit
variable {P:Program} {B:Nat} {w:World} {μ:Mu} {g:G} {n:Nat} {K:Cont}
theorem Jbp {l:Nat} {J:List (Value×Value)→Prop} (h:Qez g l J): ∃es,g l=some (.map es)∧J es:=by
 unfold Qez at h
 split at h
 ·rename_i es hg;exact ⟨es,hg,h⟩
 ·exact h.elim
theorem Xc4 {kk:IntKind} {v:Value} {J:Int→Prop} (h:Jfq kk v J): ∃a,v= .int kk a∧J a:=by
 unfold Jfq at h
 split at h
 ·obtain ⟨rfl,h⟩:=h;exact ⟨_,rfl,h⟩
 ·exact h.elim
theorem JcF {kk:IntKind} {a:Int} {es:List (Value×Value)} {J:Option Nat→Prop} (h:XcO kk a es J): ∃r,JdO kk a es 0=some r∧J r:=by
 unfold XcO at h
 split at h
 ·rename_i r hr;exact ⟨r,hr,h⟩
 ·exact h.elim
theorem Jdh {es:List (Value×Value)} {i:Nat} {J:Value×Value→Prop} (h:kAt es i J): ∃e,es[i]? =some e∧J e:=by
 unfold kAt at h
 split at h
 ·rename_i e he;exact ⟨e,he,h⟩
 ·exact h.elim
theorem QdA {t:TypeId} {J:Value→Prop} (h:Zda P t J): ∃i z,P.info? t=some i∧i.zero=some z∧plain 3 z=true∧J z:=by
 unfold Zda at h
 split at h
 ·rename_i i hi
  split at h
  ·rename_i z hz
   split at h
   ·rename_i hp;exact ⟨i,z,hi,hz,hp,h⟩
   ·exact h.elim
  ·exact h.elim
 ·exact h.elim
theorem QbW {t:TypeId} {J:IntKind→TypeId→Prop} (h:mapOf P t J): ∃kt kk e,P.underlying t=some (.map kt e)∧P.underlying kt=some (.int kk)∧J kk e:=by
 unfold mapOf at h
 split at h
 ·rename_i kt e hu
  split at h
  ·rename_i kk hk;exact ⟨kt,kk,e,hu,hk,h⟩
  ·exact h.elim
 ·exact h.elim
theorem Qem {t:TypeId} {i:TypeInfo} {z:Value} (hi:P.info? t=some i) (hz:i.zero=some z):(zeroValue t).run P w= .ok z w:=by simp [zeroValue,typeInfo,hi,hz]
structure MapR (μ:Mu) (es:List (Value×Value)) (ms:List MapEntry):Prop where
 len:ms.length=es.length
 born: ∀(i:Nat) (e:MapEntry),ms[i]? =some e→e.born=i
 rel: ∀(i:Nat) (kv:Value×Value),es[i]? =some kv→ ∃e:MapEntry,ms[i]? =some e∧plain 3 kv.1=true∧e.key=kv.1∧VR μ kv.2 e.val
theorem Zbr {kk:IntKind} {a:Int}: ∀(es:List (Value×Value)) (ms:List MapEntry) (i0:Nat) (r:Option Nat),JdO kk a es i0=some r→ms.length=es.length→
  (∀(i:Nat) (kv:Value×Value),es[i]? =some kv→ ∃e:MapEntry,ms[i]? =some e∧e.key=kv.1)→
  (r=none∧Instr.findNow (.int kk) (.int kk a) ms i0=some none)∨(∃i e,r=some (i0+i)∧ms[i]? =some e∧e.key= .int kk a∧Instr.findNow (.int kk) (.int kk a) ms i0=some (some (i0+i,e.val)))
 | [],[],i0,r,h,_,_=>by
  simp [JdO] at h;subst h;exact .inl ⟨rfl,rfl⟩
 | [],_::_,_,_,_,hl,_=>by simp at hl
 | _::_,[],_,_,_,hl,_=>by simp at hl
 |(k,v)::es,m::ms,i0,r,h,hl,hr=>by
  obtain ⟨e,he,hk⟩:=hr 0 (k,v) rfl
  simp at he;subst he
  simp only at hk
  cases k<;>simp only [JdO] at h<;>try (cases h;done)
  rename_i k b
  split at h
  ·rename_i hkk
   subst hkk
   split at h
   ·rename_i hab
    subst hab
    cases h
    exact .inr ⟨0,m,rfl,rfl,hk,by simp [Instr.findNow,hk,Instr.sameNow]⟩
   ·rename_i hab
    have hne:(a==b)=false:=by simpa using hab
    rcases Zbr es ms (i0+1) r h (by simpa using hl) (fun i kv hi=>hr (i+1) kv (by simpa using hi)) with ⟨h1,h2⟩|⟨i,e,h1,h2,h3,h4⟩
    ·exact .inl ⟨h1,by simp [Instr.findNow,hk,Instr.sameNow,hne,h2]⟩
    ·refine .inr ⟨i+1,e,by rw [h1];congr 1;omega,by simpa using h2,h3,?_⟩
     simp only [Instr.findNow,hk,Instr.sameNow,if_true,hne,h4]
     congr 3;omega
  ·cases h
theorem Sim.mapR (hs:Sim μ g n w B) {l:Nat} {m:Pl} {es:List (Value×Value)} (hg:g l=some (.map es)) (hm:μ l=some m):
  ∃en:Array MapEntry,w.heap[m.b]? =some (.map en es.length)∧B≤m.b∧MapR μ es en.toList:=by
 obtain ⟨en,h1,h2,h3,h4,h5⟩:=hs.live l _ m hg hm
 exact ⟨en,h1,h2,⟨by simpa using h3,fun i e h=>h4 i e (by simpa using h),fun i kv h=>let ⟨e,a,b,c,d⟩:=h5 i kv h;⟨e,by simpa using a,b,c,d⟩⟩⟩
theorem MapR.set {es:List (Value×Value)} {ms:List MapEntry} (h:MapR μ es ms) {j:Nat} {k v v':Value} {e:MapEntry} (hj:ms[j]? =some e) (hp:plain 3 k=true) (hv:VR μ v v'):MapR μ (es.set j (k,v)) (ms.set j { e with key:=k,val:=v' }):=by
 have hlt:j<ms.length:=(List.getElem?_eq_some_iff.1 hj).1
 refine ⟨by simp [h.len],?_,?_⟩
 ·intro i x hx
  rw [List.getElem?_set] at hx
  split at hx
  ·rename_i hji
   subst hji
   simp [hlt] at hx
   subst hx
   exact h.born j e hj
  ·exact h.born _ _ hx
 ·intro i kv hi
  rw [List.getElem?_set] at hi ⊢
  split at hi
  ·rename_i hji
   subst hji
   have:j<es.length:=by rw [←h.len];exact hlt
   simp [this] at hi
   subst hi
   exact ⟨{ e with key:=k,val:=v' },by simp [hlt],hp,rfl,hv⟩
  ·rename_i hji
   rw [if_neg hji]
   exact h.rel _ _ hi
theorem MapR.push {es:List (Value×Value)} {ms:List MapEntry} (h:MapR μ es ms) {k v v':Value} (hp:plain 3 k=true) (hv:VR μ v v'):MapR μ (es++[(k,v)]) (ms++[{ key:=k,val:=v',born:=es.length }]):=by
 refine ⟨by simp [h.len],?_,?_⟩
 ·intro i x hx
  rcases Nat.lt_or_ge i ms.length with hi|hi
  ·rw [List.getElem?_append_left hi] at hx;exact h.born _ _ hx
  ·rw [List.getElem?_append_right hi] at hx
   have:i-ms.length=0:=by
    have:=(List.getElem?_eq_some_iff.1 hx).1
    simp at this;omega
   rw [this] at hx
   simp at hx
   subst hx
   have:=h.len
   simp only;omega
 ·intro i kv hi
  have hlen:=h.len
  rcases Nat.lt_or_ge i es.length with hl|hl
  ·rw [List.getElem?_append_left hl] at hi
   rw [List.getElem?_append_left (by omega)]
   exact h.rel _ _ hi
  ·rw [List.getElem?_append_right hl] at hi
   have h0:i-es.length=0:=by
    have:=(List.getElem?_eq_some_iff.1 hi).1
    simp at this;omega
   rw [h0] at hi
   simp at hi
   subst hi
   refine ⟨{ key:=k,val:=v',born:=es.length },?_,hp,rfl,hv⟩
   rw [List.getElem?_append_right (by omega)]
   have:i-ms.length=0:=by omega
   rw [this];rfl
def JeF (w:World) (b:Nat) (o:Obj):World:={ w with heap:=w.heap.setIfInBounds b o }
theorem JdE {b:Nat} {o o0:Obj} (hb:w.heap[b]? =some o0):(JeF w b o).heap[b]? =some o:=(MapKept.heap_set hb).1
theorem XdO (w:World) {b k:Nat} (o:Obj) (h:k≠b):(JeF w b o).heap[k]? =w.heap[k]? :=by
 simp [JeF,Array.getElem?_setIfInBounds_ne (Ne.symm h)]
theorem XcR {b:Nat} {o:Obj} (hb:B≤b):Below B w (JeF w b o):=
 ⟨rfl,rfl,rfl,by simp [JeF],fun k hk=>XdO w o (by omega)⟩
theorem Sim.setMap (hs:Sim μ g n w B) {l:Nat} {m:Pl} {es es':List (Value×Value)} {ms:Array MapEntry} (hg:g l=some (.map es)) (hm:μ l=some m) (hr:MapR μ es' ms.toList):
  Sim μ (upd g l (some (.map es'))) n (JeF w m.b (.map ms es'.length)) B∧Below B w (JeF w m.b (.map ms es'.length)):=by
 obtain ⟨en,h1,h2,_⟩:=hs.mapR hg hm
 refine ⟨hs.setBlk hg rfl hm (fun k hk=>XdO w _ hk) (by simp [JeF]) ?_,XcR h2⟩
 exact ⟨ms,JdE h1,h2,by simpa using hr.len,fun i e h=>hr.born i e (by simpa using h),fun i kv h=>let ⟨e,a,b,c,d⟩:=hr.rel i kv h;⟨e,by simpa using a,b,c,d⟩⟩
theorem isKey {kk:IntKind} (a:Int):MapKept.IsKey (.int kk) (.int kk a):=rfl
theorem XdC {l:Nat} {v':Value} (h:VR μ (.map (some l)) v'): ∃m,μ l=some m∧v'= .map (some m.b):=by
 cases h with|map hm=>exact ⟨_,hm,rfl⟩
theorem Zdg {x y x' y':Value} (hx:VR μ x x') (hy:VR μ y y'):VR μ (.tuple #[x,y]) (.tuple #[x',y']):=by
 refine .tuple rfl ?_
 intro i p q hp hq
 match i,hp,hq with
 | 0,hp,hq=>simp at hp hq;subst hp;subst hq;exact hx
 | 1,hp,hq=>simp at hp hq;subst hp;subst hq;exact hy
 | i+2,hp,hq=>simp at hp
theorem Zfa {x y z x' y' z':Value} (hx:VR μ x x') (hy:VR μ y y') (hz:VR μ z z'):VR μ (.tuple #[x,y,z]) (.tuple #[x',y',z']):=by
 refine .tuple rfl ?_
 intro i p q hp hq
 match i,hp,hq with
 | 0,hp,hq=>simp at hp hq;subst hp;subst hq;exact hx
 | 1,hp,hq=>simp at hp hq;subst hp;subst hq;exact hy
 | 2,hp,hq=>simp at hp hq;subst hp;subst hq;exact hz
 | i+3,hp,hq=>simp at hp
theorem Qf3 {v v':Value} (ok b:Bool) (hv:VR μ v v'):VR μ (match ok with|true=> .tuple #[v,.bool b]|false=>v) (if ok=true then .tuple #[v',.bool b] else v'):=by
 cases ok with
 | false=>exact hv
 | true=>exact Zdg hv (.bool b)
theorem JdA {xt kt e:TypeId} {kk:IntKind} {i:TypeInfo} {z:Value} (hu:P.underlying xt=some (.map kt e)) (hk:P.underlying kt=some (.int kk)) (hi:P.info? e=some i) (hz:i.zero=some z) (hp:plain 3 z=true)
  (hs:Sim μ g n w B) {x x' y y':Value} (hx:VR μ x x') (hy:VR μ y y') {ok:Bool} {J:Value→Prop} (h:JcI kk x y z ok g J):
  ∃v v',(Instr.lookup xt x' y' ok).run P w= .ok v' w∧VR μ v v'∧J v:=by
 obtain ⟨a,ha,hq⟩:=Xc4 h
 clear h
 subst ha
 cases hy
 have hzv:=Qem (w:=w) hi hz
 have hzr:VR μ z z:=Zau μ 3 z hp
 split at hq
 ·cases hx
  refine ⟨_,_,?_,Qf3 ok false hzr,hq⟩
  simp [Instr.lookup,run_underlying hu,MapKept.run_checkKey hk (isKey a),MapKept.run_findKey hk (show Instr.findNow (.int kk) (.int kk a) [] 0=some none from rfl),hzv]
 ·rename_i l
  obtain ⟨m,hm,rfl⟩:=XdC hx
  obtain ⟨es,hg,hq⟩:=Jbp hq
  obtain ⟨r,hf,hq⟩:=JcF hq
  obtain ⟨en,hh,_,hR⟩:=hs.mapR hg hm
  rcases Zbr es en.toList 0 r hf hR.len (fun i kv hi=>let ⟨e,a,_,c,_⟩:=hR.rel i kv hi;⟨e,a,c⟩) with ⟨rfl,hfn⟩|⟨j,me,rfl,hj,hkey,hfn⟩
  ·refine ⟨_,_,?_,Qf3 ok false hzr,hq⟩
   simp [Instr.lookup,run_underlying hu,MapKept.run_getObj_map hh,MapKept.run_checkKey hk (isKey a),MapKept.run_findKey hk hfn,hzv]
  ·simp only [Nat.zero_add] at hq hfn
   obtain ⟨kv,hkv,hq⟩:=Jdh hq
   obtain ⟨e',he',_,_,hv⟩:=hR.rel j kv hkv
   rw [hj] at he';cases he'
   refine ⟨_,_,?_,Qf3 ok true hv,hq⟩
   simp [Instr.lookup,run_underlying hu,MapKept.run_getObj_map hh,MapKept.run_checkKey hk (isKey a),MapKept.run_findKey hk hfn]
 ·exact hq.elim
theorem Xb8 {es:Array MapEntry} {j:Nat} {e:MapEntry} (hj:es.toList[j]? =some e) (f:MapEntry→MapEntry):(es.modify j f).toList=es.toList.set j (f e):=by
 apply List.ext_getElem?
 intro i
 rw [Array.getElem?_toList,Array.getElem?_modify,List.getElem?_set]
 have hlt:j<es.toList.length:=(List.getElem?_eq_some_iff.1 hj).1
 by_cases h:j=i
 ·subst h
  have hj2:es[j]? =some e:=by simpa using hj
  rw [hj2,if_pos rfl,if_pos rfl,if_pos hlt]
  rfl
 ·simp [h]
theorem Jca {ty kt e:TypeId} {kk:IntKind} (hu:P.underlying ty=some (.map kt e)) (hk:P.underlying kt=some (.int kk)) (hs:Sim μ g n w B) {x x' y y' z z':Value} (hx:VR μ x x') (hy:VR μ y y') (hz:VR μ z z')
  (h:Jcz kk x y z g fun g=>K undef g n): ∃w',(Instr.mapUpdate ty x' y' z').run P w= .ok () w'∧Fin B w μ K undef w':=by
 obtain ⟨a,ha,hq⟩:=Xc4 h
 clear h
 have h:=hq
 clear hq
 subst ha
 cases hy
 split at h
 ·rename_i l
  obtain ⟨m,hm,rfl⟩:=XdC hx
  obtain ⟨es,hg,h⟩:=Jbp h
  obtain ⟨r,hf,h⟩:=JcF h
  obtain ⟨en,hh,_,hR⟩:=hs.mapR hg hm
  rcases Zbr es en.toList 0 r hf hR.len (fun i kv hi=>let ⟨e,a,_,c,_⟩:=hR.rel i kv hi;⟨e,a,c⟩) with ⟨rfl,hfn⟩|⟨j,me,rfl,hj,hkey,hfn⟩
  ·have hR':MapR μ (es++[(.int kk a,z)]) (en.push { key:= .int kk a,val:=z',born:=es.length }).toList:=by
    rw [Array.toList_push];exact hR.push rfl hz
   obtain ⟨h1,h2⟩:=hs.setMap hg hm hR'
   refine ⟨_,?_,_,_,n,μ,h,X9 μ,h1,Ext.refl μ,h2⟩
   simp [Instr.mapUpdate,run_underlying hu,MapKept.run_getObj_map hh,MapKept.run_checkKey hk (isKey a),MapKept.run_findKey hk hfn,MapKept.run_setObj_map _ hh,JeF]
  ·simp only [Nat.zero_add] at h hfn
   have hR':MapR μ (es.set j (.int kk a,z)) (en.modify j fun e=>{ e with key:= .int kk a,val:=z' }).toList:=by
    rw [Xb8 hj];exact hR.set hj rfl hz
   obtain ⟨h1,h2⟩:=hs.setMap hg hm hR'
   rw [List.length_set] at h1 h2
   refine ⟨_,?_,_,_,n,μ,h,X9 μ,h1,Ext.refl μ,h2⟩
   have hj':en[j]? =some me:=by simpa using hj
   simp [Instr.mapUpdate,run_underlying hu,MapKept.run_getObj_map hh,MapKept.run_checkKey hk (isKey a),MapKept.run_findKey hk hfn,hj',hkey,MapKept.run_keyThatStays (isKey a),MapKept.run_setObj_map _ hh,JeF]
 ·exact h.elim
theorem JcM {ty kt e:TypeId} {kk:IntKind} {i:TypeInfo} {z:Value} (hu:P.underlying ty=some (.map kt e)) (hk:P.underlying kt=some (.int kk)) (hi:P.info? e=some i) (hz:i.zero=some z) (hp:plain 3 z=true) (hs:Sim μ g n w B)
  {x x' y y':Value} (hx:VR μ x x') (hy:VR μ y y') (h:Zbn kk x y z g fun v g=>K v g n): ∃v w',(Instr.mapEntry ty x' y').run P w= .ok v w'∧Fin B w μ K v w':=by
 obtain ⟨a,ha,hq⟩:=Xc4 h
 clear h
 have h:=hq
 clear hq
 subst ha
 cases hy
 have hzv:=Qem (w:=w) hi hz
 have hzr:VR μ z z:=Zau μ 3 z hp
 split at h
 ·rename_i l
  obtain ⟨m,hm,rfl⟩:=XdC hx
  obtain ⟨es,hg,h⟩:=Jbp h
  obtain ⟨r,hf,h⟩:=JcF h
  obtain ⟨en,hh,_,hR⟩:=hs.mapR hg hm
  rcases Zbr es en.toList 0 r hf hR.len (fun i kv hi=>let ⟨e,a,_,c,_⟩:=hR.rel i kv hi;⟨e,a,c⟩) with ⟨rfl,hfn⟩|⟨j,me,rfl,hj,hkey,hfn⟩
  ·have hR':MapR μ (es++[(.int kk a,z)]) (en.push { key:= .int kk a,val:=z,born:=es.length }).toList:=by
    rw [Array.toList_push];exact hR.push rfl hzr
   obtain ⟨h1,h2⟩:=hs.setMap hg hm hR'
   refine ⟨.tuple #[z,.int .i64 es.length],_,?_,_,_,n,μ,h,Zdg hzr (.int _ _),h1,Ext.refl μ,h2⟩
   simp [Instr.mapEntry,run_underlying hu,MapKept.run_getObj_map hh,MapKept.run_checkKey hk (isKey a),MapKept.run_findKey hk hfn,MapKept.run_setObj_map _ hh,JeF,hzv,goInt]
  ·simp only [Nat.zero_add] at h hfn
   obtain ⟨kv,hkv,h⟩:=Jdh h
   obtain ⟨e',he',_,_,hv⟩:=hR.rel j kv hkv
   rw [hj] at he';cases he'
   have hR':MapR μ (es.set j (.int kk a,kv.2)) (en.modify j fun e=>{ e with key:= .int kk a }).toList:=by
    rw [Xb8 hj]
    exact hR.set hj rfl hv
   obtain ⟨h1,h2⟩:=hs.setMap hg hm hR'
   rw [List.length_set] at h1 h2
   have hj':en[j]? =some me:=by simpa using hj
   have hb:me.born=j:=hR.born _ _ hj
   refine ⟨.tuple #[me.val,.int .i64 j],_,?_,_,_,n,μ,h,Zdg hv (.int _ _),h1,Ext.refl μ,h2⟩
   simp [Instr.mapEntry,run_underlying hu,MapKept.run_getObj_map hh,MapKept.run_checkKey hk (isKey a),MapKept.run_findKey hk hfn,hj',hkey,MapKept.run_keyThatStays (isKey a),MapKept.run_setObj_map _ hh,JeF,goInt,hb]
 ·exact h.elim
theorem ZeZ {ms:Array MapEntry} (hb: ∀(i:Nat) (e:MapEntry),ms.toList[i]? =some e→e.born=i) {j:Nat} {me:MapEntry} (hj:ms.toList[j]? =some me):ms.findIdx? (fun e=>(e.born:Int)==(j:Int))=some j:=by
 have hlt:j<ms.size:=by have:=(List.getElem?_eq_some_iff.1 hj).1;simpa using this
 have hb': ∀(i:Nat) (h:i<ms.size),ms[i].born=i:=fun i h=>hb i ms[i] (by simp [h])
 rw [Array.findIdx?_eq_some_iff_getElem]
 refine ⟨hlt,?_,fun i hi=> ?_⟩
 ·rw [hb' j hlt];simp
 ·rw [hb' i (by omega)]
  simp;omega
theorem Qci {ty:TypeId} (hs:Sim μ g n w B) {x x' y y' z z':Value} (hx:VR μ x x') (hy:VR μ y y') (hz:VR μ z z')
  (h:JaD x y z g fun g=>K undef g n): ∃w',(Instr.entryStore ty x' y' z').run P w= .ok () w'∧Fin B w μ K undef w':=by
 obtain ⟨k,j,ha,hq⟩:=Xa2 h
 clear h
 have h:=hq
 clear hq
 subst ha
 cases hy
 split at h
 ·rename_i l
  obtain ⟨m,hm,rfl⟩:=XdC hx
  obtain ⟨es,hg,h0,h⟩:=Jbp h
  obtain ⟨kv,hkv,h⟩:=Jdh h
  obtain ⟨en,hh,_,hR⟩:=hs.mapR hg hm
  obtain ⟨me,hj,hpl,hkey,hv⟩:=hR.rel _ kv hkv
  have hR':MapR μ (es.set j.toNat (kv.1,z)) (en.modify j.toNat fun e=>{ e with val:=z' }).toList:=by
   rw [Xb8 hj]
   have:=hR.set hj hpl hz
   rw [←hkey] at this ⊢
   exact this
  obtain ⟨h1,h2⟩:=hs.setMap hg hm hR'
  rw [List.length_set] at h1 h2
  refine ⟨_,?_,_,_,n,μ,h,X9 μ,h1,Ext.refl μ,h2⟩
  have hf:=ZeZ hR.born hj
  rw [Int.toNat_of_nonneg h0] at hf
  simp [Instr.entryStore,MapKept.run_getObj_map hh,asInt,asIntOf,hf,MapKept.run_setObj_map _ hh,JeF]
 ·exact h.elim
theorem Sim.newB (hs:Sim μ g n w B) {b:Blk} {o:Obj} (hb: ∀w':World,w'.heap[w.heap.size]? =some o→BlkOk (Zbf μ n ⟨w.heap.size,0,0,0⟩) b ⟨w.heap.size,0,0,0⟩ w' B):
  Sim (Zbf μ n ⟨w.heap.size,0,0,0⟩) (upd g n (some b)) (n+1) (w.alloc o) B∧Below B w (w.alloc o):=by
 refine ⟨hs.place (by simp;have:=hs.base;omega) ?_ (hb _ ?_),(Below.refl B w).alloc hs.base o⟩
 ·intro l b' m' e f
  have hlt:=(hs.live l b' m' e f).lt
  exact ⟨by simp;omega,Below.heap_alloc _ _ _ hlt⟩
 ·show (w.heap.push _)[w.heap.size]? =_;simp
theorem Zce (hs:Sim μ g n w B) (h:ZdY (.map []) g n fun l g n=>K (.map (some l)) g n):Fin B w μ K (.map (some w.heap.size)) (w.alloc (.map #[] 0)):=by
 have hk:=h (hs.gdom n (Nat.le_refl n))
 obtain ⟨h1,h2⟩:=hs.newB (b:= .map []) (o:= .map #[] 0) (fun w' hw=>⟨#[],hw,hs.base,rfl,by simp,by simp⟩)
 exact ⟨_,_,n+1,_,hk,.map (JaS μ n ⟨w.heap.size,0,0,0⟩),h1,hs.newExt _,h2⟩
theorem QdR {xt kt e:TypeId} (hu:P.underlying xt=some (.map kt e)) (hs:Sim μ g n w B) {x x':Value} (hx:VR μ x x') (h:Xca x g n fun l g n=>K (ptr l 0) g n):
  ∃v w',(Instr.range xt x').run P w= .ok v w'∧Fin B w μ K v w':=by
 unfold Xca at h
 split at h
 ·rename_i l
  obtain ⟨m,hm,rfl⟩:=XdC hx
  obtain ⟨es,hg,h⟩:=Jbp h
  obtain ⟨en,hh,hB,hR⟩:=hs.mapR hg hm
  have hk:=h (hs.gdom n (Nat.le_refl n))
  obtain ⟨h1,h2⟩:=hs.newB (b:= .iter l es.length []) (o:= .mapIter (some m.b) es.length #[] es.length) (fun w' hw=>⟨m,hs.newExt _ _ _ hm,rfl,hs.base,hw⟩)
  refine ⟨_,_,run_range_map w xt kt e m.b en es.length hu hh,_,_,n+1,_,hk,?_,h1,hs.newExt _,h2⟩
  exact VR.ptr (m:=⟨w.heap.size,0,0,0⟩) 0 (JaS μ n _)
 ·exact h.elim
theorem QdF {x x':Value} (hs:Sim μ g n w B) (hx:VR μ x x') {J:Nat→Nat→List (Value×Value)→List Nat→Prop} (h:Xdb x g J):
  ∃p l es seen mp ml,∃en:Array MapEntry,g p=some (.iter l es.length seen)∧μ p=some mp∧g l=some (.map es)∧μ l=some ml∧mp.s=0∧B≤mp.b∧x'= .pointer (some ⟨mp.b,0,none⟩)∧
   w.heap[mp.b]? =some (.mapIter (some ml.b) es.length seen.toArray es.length)∧w.heap[ml.b]? =some (.map en es.length)∧MapR μ es en.toList∧J p l es seen:=by
 unfold Xdb at h
 split at h
 ·rename_i p
  split at h
  ·rename_i l cnt seen hgp
   obtain ⟨es,hg,hc,hq⟩:=Jbp h
   clear h
   subst hc
   cases hx with
   | @ptr _ mp _ hmp=>
    obtain ⟨ml,hml,hs0,hB,hi⟩:=hs.live p _ mp hgp hmp
    obtain ⟨en,hh,_,hR⟩:=hs.mapR hg hml
    exact ⟨p,l,es,seen,mp,ml,en,hgp,hmp,hg,hml,hs0,hB,by simp [hs0],hi,hh,hR,hq⟩
  ·exact h.elim
 ·exact h.elim
theorem QeB {ty:TypeId} (hs:Sim μ g n w B) {x x':Value} (hx:VR μ x x') (h:ZeN x g fun v g=>K v g n): ∃v w',(Instr.next x' false ty).run P w= .ok v w'∧Fin B w μ K v w':=by
 obtain ⟨p,l,es,seen,mp,ml,en,hgp,hmp,hg,hml,hs0,hB,rfl,hi,hh,hR,hfin,hstep⟩:=QdF hs hx h
 have hold: ∀y∈en.toList,y.born<es.length:=by
  intro y hy
  obtain ⟨i,hi⟩:=List.mem_iff_getElem?.1 hy
  rw [hR.born i y hi,←hR.len]
  exact (List.getElem?_eq_some_iff.1 hi).1
 rcases run_next_at (P:=P) w ty mp.b ml.b es.length es.length seen.toArray en es.length hi hh hold (Nat.le_refl _) with ⟨h0,hrun⟩|⟨me,hme,w1,hw1,hrun⟩
 ·refine ⟨_,w,hrun,Zi hs ?_ (hfin ?_)⟩
  ·refine .tuple rfl ?_
   intro i a b ha hb
   match i,ha,hb with
   | 0,ha,hb=>simp at ha hb;subst ha;subst hb;exact .bool _
   | i+1,ha,hb=>simp at ha
  ·intro i hi
   have hlt:i<en.toList.length:=by rw [hR.len];exact hi
   have he:leftOf en seen.toArray= #[]:=Array.eq_empty_of_size_eq_zero h0
   unfold leftOf at he
   rw [Array.filter_eq_empty_iff] at he
   have:=he en.toList[i] (by rw [←Array.mem_toList_iff];exact List.getElem_mem _)
   have hb:=hR.born i en.toList[i] (List.getElem?_eq_getElem hlt)
   rw [hb] at this
   simpa using this
 ·have hmem:me∈en.toList∧me.born∉seen:=by
   unfold leftOf at hme
   simp at hme
   exact ⟨by simpa using hme.1,hme.2⟩
  obtain ⟨i,hi'⟩:=List.mem_iff_getElem?.1 hmem.1
  have hb:=hR.born i me hi'
  have hlt:i<es.length:=by rw [←hR.len];exact (List.getElem?_eq_some_iff.1 hi').1
  obtain ⟨me',hme',hpl,hkey,hv⟩:=hR.rel i es[i] (List.getElem?_eq_getElem hlt)
  rw [hi'] at hme';cases hme'
  have hk:=hstep i es[i] (by rw [←hb];exact hmem.2) (List.getElem?_eq_getElem hlt)
  have hs1:Sim μ g n w1 B∧Below B w w1∧w1.heap=w.heap:=by
   rcases hw1 with rfl|rfl
   ·exact ⟨hs,Below.refl B _,rfl⟩
   ·exact ⟨hs.drew,(Below.refl B w).drew,rfl⟩
  obtain ⟨hs1,hb1,hheap⟩:=hs1
  refine ⟨_,_,hrun,_,_,n,μ,hk,Zfa (.bool _) (by rw [hkey];exact Zau μ 3 _ hpl) hv,?_,Ext.refl μ,?_⟩
  ·refine hs1.setBlk hgp rfl hmp (fun k hk=> ?_) (by simp [ChangeMaps.setBlock]) ?_
   ·exact XdO w1 _ hk
   ·refine ⟨ml,hml,hs0,hB,?_⟩
    rw [hb]
    have:(seen.toArray.push i)=(seen++[i]).toArray:=by simp
    rw [←this]
    exact JdE (w:=w1) (by rw [hheap];exact hi)
  ·exact hb1.trans (XcR (w:=w1) hB)
theorem QdP (hs:Sim μ g n w B) {x x':Value} (hx:VR μ x x') {J:Value→Prop} (h:ZdD x g J): ∃v v',(Instr.entry x').run P w= .ok v' w∧VR μ v v'∧J v:=by
 obtain ⟨p,l,es,seen,mp,ml,en,hgp,hmp,hg,hml,hs0,hB,rfl,hi,hh,hR,h⟩:=QdF hs hx h
 split at h
 ·rename_i i hlast
  obtain ⟨kv,hkv,h⟩:=Jdh h
  obtain ⟨me,hme,hpl,hkey,hv⟩:=hR.rel i kv hkv
  have hb:=hR.born i me hme
  have hseen:seen.toArray=(seen.dropLast.toArray).push me.born:=by
   have hne:seen≠[]:=by intro e;subst e;simp at hlast
   have h1:=List.dropLast_concat_getLast hne
   rw [List.getLast?_eq_some_getLast hne] at hlast
   cases hlast
   rw [hb]
   simp [h1]
  rw [hseen] at hi
  have hnd:(en.toList.map (·.born)).Nodup:=by
   have:en.toList.map (·.born)=List.range en.toList.length:=by
    apply List.ext_getElem?
    intro k
    rw [List.getElem?_map]
    by_cases hk:k<en.toList.length
    ·rw [List.getElem?_eq_getElem hk,List.getElem?_range hk]
     simp only [Option.map_some]
     rw [hR.born k _ (List.getElem?_eq_getElem hk)]
    ·rw [List.getElem?_eq_none (by omega),List.getElem?_eq_none (by simp at hk ⊢;omega)];rfl
   rw [this];exact List.nodup_range
  refine ⟨_,_,run_entry_at w mp.b ml.b es.length seen.dropLast.toArray en es.length me hi hh (List.mem_of_getElem? hme) hnd,Zdg (by rw [hkey];exact Zau μ 3 _ hpl) hv,h⟩
 ·exact h.elim
theorem ZeG {tys:Array TypeId} {ty t:TypeId} (h0:tys[0]? =some t) (hu:P.underlying t=some .string) {x x':Value} (r:Array Value) (hx:VR μ x x') {J:Value→Prop} (hr:r[0]? =some x') (h:Jcu x J):
  ∃v,(Builtin.len_ tys ty r).run P w= .ok v w∧VR μ v v∧J v:=by
 unfold Jcu at h
 split at h
 ·cases hx
  refine ⟨_,?_,.int _ _,h⟩
  simp [Builtin.len_,h0,hr,run_underlying hu,goInt]
 ·exact h.elim
theorem Qdp {xt:TypeId} (hu:P.underlying xt=some .string) {x x' y y':Value} (hx:VR μ x x') (hy:VR μ y y') {J:Value→Prop} (h:ZcO x y J):
  ∃v v',(Instr.index xt x' y').run P w= .ok v' w∧VR μ v v'∧J v:=by
 unfold ZcO at h
 split at h
 ·cases hx;cases hy
  obtain ⟨h0,h⟩:=h
  split at h
  ·rename_i b hb
   refine ⟨_,_,?_,.int _ _,h⟩
   simp [Instr.index,asIntOf,run_underlying hu,h0,hb]
  ·exact h.elim
 ·exact h.elim
theorem Jfm {tys:Array TypeId} {ty t e:TypeId} (h0:tys[0]? =some t) (hu:P.underlying t=some (.slice e)) {x x':Value} (r:Array Value) (hx:VR μ x x') {J:Value→Prop} (hr:r[0]? =some x') (h:ZfP x J):
  ∃v,(Builtin.cap_ tys ty r).run P w= .ok v w∧VR μ v v∧J v:=by
 unfold ZfP at h
 split at h
 ·rename_i a k c
  split at h
  ·rename_i hc
   have: ∃a',x'= .slice a' k c:=by
    cases hx with
    | nilslice=>exact ⟨_,rfl⟩
    | slx o n c a' h1 h2 h3 h4=>exact ⟨_,rfl⟩
    | sll o j n c o' h1 h2 h3 h4 h5=>omega
   obtain ⟨a',rfl⟩:=this
   refine ⟨_,?_,.int _ _,h⟩
   simp [Builtin.cap_,h0,hr,run_underlying hu,goInt]
  ·exact h.elim
 ·exact h.elim
theorem Jew {b:Builtin} {vs:List Value} {cvs:Array Value} {tys:Array TypeId} {ty:TypeId} {J:Value→Prop} (hv:VRs μ vs cvs.toList) (h:Zdt P b vs tys.toList J):
  ∃s:Array TypeId→TypeId→Array Value→Sem Value,(∀consts args,builtin b tys ty consts args=(do pure (.value (←s tys ty args))))∧ ∃v v',(s tys ty cvs).run P w= .ok v' w∧VR μ v v'∧J v:=by
 unfold Zdt at h
 split at h
 ·split at h
  ·rename_i x r t0 r2 ht
   split at h
   ·rename_i e hu
    have h0:tys[0]? =some t0:=by
     have:tys.toList[0]? =some t0:=by rw [ht];rfl
     simpa using this
    obtain ⟨x',hx',hxr⟩:=hv.get 0 x rfl
    obtain ⟨v,h1,h2,h3⟩:=Jfm (P:=P) (w:=w) (ty:=ty) h0 hu cvs hxr (by simpa using hx') h
    exact ⟨Builtin.cap_,fun _ _=>rfl,v,v,h1,h2,h3⟩
   ·exact h.elim
  ·exact h.elim
 ·split at h
  ·rename_i x y t0 t1 ht
   split at h
   ·unfold Xgy at h
    split at h
    case h_2=>exact h.elim
    rename_i k a k' b'
    obtain ⟨rfl,h⟩:=h
    have hc:cvs.toList=[.int k a,.int k b']:=by
     generalize cvs.toList=l at hv
     cases hv with
     | cons h1 h2=>
      cases h1
      cases h2 with
      | cons h3 h4=>cases h3;cases h4;rfl
    refine ⟨Builtin.min_,fun _ _=>rfl,_,_,?_,.int _ _,h⟩
    simp [Builtin.min_,hc,Builtin.min2]
   ·exact h.elim
  ·exact h.elim
 ·exact h.elim
end Go.Proofs.YtmchcjaomcdbmaaGreat.Abs
