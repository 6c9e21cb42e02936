import Derived.Below
import Derived.IntWalk
import Derived.Laws.AppendOwn
import Derived.Laws.Pointers
import Derived.Laws.Slices
import Derived.Laws.Strings
import Derived.Laws.StructEq
import Derived.Laws.Tables
import Derived.MapKept
import Derived.Maps.RangeRun
import Derived.Orders
import Derived.Tactics
/- A machine of blocks and values, sound for the model's runs: values, heaps, operations. -/
set_option linter.all false
set_option linter.deprecated false
namespace Go.Proofs.YtmchcjaomcdbmaaGreat.Abs
open Go Go.RowKit
section
structure Pl where
 b:Nat
 s:Nat
 K:Nat
 z:Nat
abbrev Mu:=Nat→Option Pl
def LC:Nat:=4611686018427387904
inductive VR (μ:Mu):Value→Value→Prop
 | bool (b:Bool):VR μ (.bool b) (.bool b)
 | int (k:IntKind) (n:Int):VR μ (.int k n) (.int k n)
 | float (k:FloatKind) (n:Nat):VR μ (.float k n) (.float k n)
 | complex (k:FloatKind) (x y:Nat):VR μ (.complex k x y) (.complex k x y)
 | string (s:ByteArray):VR μ (.string s) (.string s)
 | nilptr:VR μ (.pointer none) (.pointer none)
 | nilslice:VR μ (.slice none 0 0) (.slice none 0 0)
 | nilmap:VR μ (.map none) (.map none)
 | nilchan:VR μ (.chan none) (.chan none)
 | nilFunc:VR μ .nilFunc .nilFunc
 | nilIface:VR μ .nilIface .nilIface
 | ptr {l:Nat} {m:Pl} (o:Nat):μ l=some m→VR μ (.pointer (some ⟨l,o,none⟩)) (.pointer (some ⟨m.b,m.s+o,none⟩))
 | slx {l:Nat} {m:Pl} (o n c:Nat) (a':Addr):c<LC→n≤c→μ l=some m→(a'=⟨m.b,m.s+o,none⟩∨c=0)→VR μ (.slice (some ⟨l,o,none⟩) n c) (.slice (some a') n c)
 | sll {l:Nat} {m:Pl} (o j n c o':Nat):μ l=some m→o=j*m.z→j+c=m.K→n≤c→(o'=m.s+o∨c=0)→
   VR μ (.slice (some ⟨l,o,none⟩) n (LC+m.z)) (.slice (some ⟨m.b,o',none⟩) n c)
 | map {l:Nat} {m:Pl}:μ l=some m→VR μ (.map (some l)) (.map (some m.b))
 | func (fn:Fn) {xs ys us vs:Array Value}:xs.size=us.size→ys.size=vs.size→(∀(i:Nat) (x u:Value),xs[i]? =some x→us[i]? =some u→VR μ x u)→
   (∀(i:Nat) (y v:Value),ys[i]? =some y→vs[i]? =some v→VR μ y v)→VR μ (.func fn xs ys) (.func fn us vs)
 | iface (t:TypeId) {x y:Value}:VR μ x y→VR μ (.iface t x) (.iface t y)
 | agg {xs ys:Array Value}:xs.size=ys.size→(∀(i:Nat) (x y:Value),xs[i]? =some x→ys[i]? =some y→VR μ x y)→VR μ (.agg xs) (.agg ys)
 | tuple {xs ys:Array Value}:xs.size=ys.size→(∀(i:Nat) (x y:Value),xs[i]? =some x→ys[i]? =some y→VR μ x y)→VR μ (.tuple xs) (.tuple ys)
def Ext (μ μ':Mu):Prop:= ∀l m,μ l=some m→μ' l=some m
theorem Ext.refl (μ:Mu):Ext μ μ:=λ_ _ h=>h
theorem Ext.trans {a b c:Mu} (h:Ext a b) (k:Ext b c):Ext a c:=λl m e=>k l m (h l m e)
theorem VR.ext {μ μ':Mu} (hx:Ext μ μ') {v v':Value} (h:VR μ v v'):VR μ' v v':=by
 induction h with
 | bool b=>exact .bool b
 | int k n=>exact .int k n
 | float k n=>exact .float k n
 | complex k x y=>exact .complex k x y
 | string s=>exact .string s
 | nilptr=>exact .nilptr
 | nilslice=>exact .nilslice
 | nilmap=>exact .nilmap
 | nilchan=>exact .nilchan
 | nilFunc=>exact .nilFunc
 | nilIface=>exact .nilIface
 | ptr o h=>exact .ptr o (hx _ _ h)
 | slx o n c o' hc O h J=>exact .slx o n c o' hc O (hx _ _ h) J
 | sll o j n c o' h E J Y Z=>exact .sll o j n c o' (hx _ _ h) E J Y Z
 | map h=>exact .map (hx _ _ h)
 | func V E J _ _ U Q=>exact .func V E J U Q
 | iface t _ I=>exact .iface t I
 | agg E _ I=>exact .agg E I
 | tuple E _ I=>exact .tuple E I
inductive VRs (μ:Mu):List Value→List Value→Prop
 | nil:VRs μ [] []
 | cons {x y:Value} {xs ys:List Value}:VR μ x y→VRs μ xs ys→VRs μ (x::xs) (y::ys)
theorem VRs.ext {μ μ':Mu} (hx:Ext μ μ') {xs ys:List Value} (h:VRs μ xs ys):VRs μ' xs ys:=by
 induction h with
 | nil=>exact .nil
 | cons a _ j=>exact .cons (a.ext hx) j
theorem VRs.length {μ:Mu} {xs ys:List Value} (h:VRs μ xs ys):xs.length=ys.length:=by
 induction h with
 | nil=>rfl
 | cons _ _ j=>simp [j]
theorem VRs.get {μ:Mu} {xs ys:List Value} (h:VRs μ xs ys): ∀(i:Nat) (x:Value),xs[i]? =some x→ ∃y,ys[i]? =some y∧VR μ x y:=by
 induction h with
 | nil=>intro i x h;simp at h
 | cons a _ j=>
  intro i x hx
  cases i with
  | zero=>simp at hx;subst hx;exact ⟨_,rfl,a⟩
  | succ i=>simpa using j i x (by simpa using hx)
theorem VRs.of_get {μ:Mu}: ∀{xs ys:List Value},xs.length=ys.length→(∀(i:Nat) (x y:Value),xs[i]? =some x→ys[i]? =some y→VR μ x y)→VRs μ xs ys
 | [],[],_,_=> .nil
 | x::xs,y::ys,j,h=> .cons (h 0 x y rfl rfl) (VRs.of_get (by simpa using j) λi a b E hb=>h (i+1) a b (by simpa using E) (by simpa using hb))
 | [],_::_,j,_=>by simp at j
 | _::_,[],j,_=>by simp at j
theorem VRs.append {μ:Mu} {a b c d:List Value} (h:VRs μ a b) (k:VRs μ c d):VRs μ (a++c) (b++d):=by
 induction h with
 | nil=>exact k
 | cons x _ j=>exact .cons x j
theorem VRs.take {μ:Mu} {a b:List Value} (h:VRs μ a b): ∀n,VRs μ (a.take n) (b.take n):=by
 induction h with
 | nil=>intro n;simpa using VRs.of_get (μ:=μ) (xs:=[]) (ys:=[]) rfl (by simp)
 | cons x _ j=>intro n;cases n with
  | zero=>exact .nil
  | succ n=>exact .cons x (j n)
theorem VRs.drop {μ:Mu} {a b:List Value} (h:VRs μ a b): ∀n,VRs μ (a.drop n) (b.drop n):=by
 induction h with
 | nil=>intro n;simpa using VRs.of_get (μ:=μ) (xs:=[]) (ys:=[]) rfl (by simp)
 | cons x t j=>intro n;cases n with
  | zero=>exact .cons x t
  | succ n=>exact j n
theorem VRs.agg {μ:Mu} {xs ys:List Value} (h:VRs μ xs ys):VR μ (.agg xs.toArray) (.agg ys.toArray):=
 .agg (by simpa using h.length) λi x y hx I=>by
  obtain ⟨z,J,E⟩:=h.get i x (by simpa using hx)
  have j:ys[i]? =some y:=by simpa using I
  rw [J] at j;cases j;exact E
theorem VR.agg_inv {μ:Mu} {xs:Array Value} {v:Value} (h:VR μ (.agg xs) v): ∃ys:Array Value,v= .agg ys∧VRs μ xs.toList ys.toList:=by
 cases h with
 | @agg _ ys hs j=>exact ⟨ys,rfl,VRs.of_get (by simpa using hs) λi x y hx E=>j i x y (by simpa using hx) (by simpa using E)⟩
def isCell:Value→Bool
 | .agg _| .tuple _=>false
 | _=>true
theorem VR.isCell {μ:Mu} {v j:Value} (h:VR μ v j):isCell j=isCell v:=by cases h<;>rfl
theorem VR.cells {μ:Mu} {v Q:Value} (h:VR μ v Q):VRs μ v.cells.toList Q.cells.toList:=by
 cases h with
 | agg I E=>exact VRs.of_get (by simpa [Value.cells] using I) λi x y hx V=>E i x y (by simpa [Value.cells] using hx) (by simpa [Value.cells] using V)
 | bool b=>exact .cons (.bool b) .nil
 | int k n=>exact .cons (.int k n) .nil
 | float k n=>exact .cons (.float k n) .nil
 | complex k x y=>exact .cons (.complex k x y) .nil
 | string s=>exact .cons (.string s) .nil
 | nilptr=>exact .cons .nilptr .nil
 | nilslice=>exact .cons .nilslice .nil
 | nilmap=>exact .cons .nilmap .nil
 | nilchan=>exact .cons .nilchan .nil
 | nilFunc=>exact .cons .nilFunc .nil
 | nilIface=>exact .cons .nilIface .nil
 | ptr o h=>exact .cons (.ptr o h) .nil
 | slx o n c o' hc U h E=>exact .cons (.slx o n c o' hc U h E) .nil
 | sll o j n c o' h I E J O=>exact .cons (.sll o j n c o' h I E J O) .nil
 | map h=>exact .cons (.map h) .nil
 | func Y I E J O=>exact .cons (.func Y I E J O) .nil
 | iface t h=>exact .cons (.iface t h) .nil
 | tuple I E=>exact .cons (.tuple I E) .nil
def plain:Nat→Value→Bool
 | _,.bool _|_,.int _ _|_,.string _|_,.pointer none|_,.map none|_,.nilFunc|_,.nilIface=>true
 | _,.slice none n c=>n==0&&c==0
 | d+1,.agg xs=>xs.toList.all (plain d)
 | d+1,.tuple xs=>xs.toList.all (plain d)
 | _,.func _ xs ys=>xs.size==0&&ys.size==0
 | _,_=>false
theorem XaW (μ:Mu): ∀(d:Nat) (v:Value),plain d v=true→VR μ v v:=by
 intro d
 induction d with
 | zero=>
  intro v h
  cases v with
  | bool b=>exact .bool b
  | int k n=>exact .int k n
  | string s=>exact .string s
  | pointer a=>cases a with
   | none=>exact .nilptr
   | some a=>simp [plain] at h
  | slice a n c=>cases a with
   | none=>simp [plain] at h;obtain ⟨rfl,rfl⟩:=h;exact .nilslice
   | some a=>simp [plain] at h
  | map r=>cases r with
   | none=>exact .nilmap
   | some r=>simp [plain] at h
  | nilFunc=>exact .nilFunc
  | nilIface=>exact .nilIface
  | func E xs ys=>
   simp [plain] at h
   exact .func E rfl rfl (by intro i x u hx;simp [h.1] at hx) (by intro i x u hx;simp [h.2] at hx)
  | _=>simp [plain] at h
 | succ d I=>
  intro v h
  cases v with
  | bool b=>exact .bool b
  | int k n=>exact .int k n
  | string s=>exact .string s
  | pointer a=>cases a with
   | none=>exact .nilptr
   | some a=>simp [plain] at h
  | slice a n c=>cases a with
   | none=>simp [plain] at h;obtain ⟨rfl,rfl⟩:=h;exact .nilslice
   | some a=>simp [plain] at h
  | map r=>cases r with
   | none=>exact .nilmap
   | some r=>simp [plain] at h
  | nilFunc=>exact .nilFunc
  | nilIface=>exact .nilIface
  | func E xs ys=>
   simp [plain] at h
   exact .func E rfl rfl (by intro i x u hx;simp [h.1] at hx) (by intro i x u hx;simp [h.2] at hx)
  | agg xs=>
   refine .agg rfl λi x y hx j=> ?_
   rw [hx] at j;cases j
   simp only [plain,List.all_eq_true] at h
   exact I x (h x (by simpa using Array.mem_of_getElem? hx))
  | tuple xs=>
   refine .tuple rfl λi x y hx j=> ?_
   rw [hx] at j;cases j
   simp only [plain,List.all_eq_true] at h
   exact I x (h x (by simpa using Array.mem_of_getElem? hx))
  | _=>simp [plain] at h
theorem Jgv {xs ys:Array Value} (hs:xs.size=ys.size) (h: ∀(i:Nat) (x y:Value),xs[i]? =some x→ys[i]? =some y→y=x):ys=xs:=by
 apply Array.ext hs.symm
 intro i j E
 exact h i xs[i] ys[i] (by simp [E]) (by simp [j])
theorem XcK {μ:Mu} {v Q:Value} (U:VR μ v Q): ∀(d:Nat),plain d v=true→Q=v:=by
 induction U with
 | ptr o h=>intro d hp;cases d<;>simp [plain] at hp
 | slx o n c o' hc V h O=>intro d hp;cases d<;>simp [plain] at hp
 | sll o j n c o' h E O Z h4=>intro d hp;cases d<;>simp [plain] at hp
 | map h=>intro d hp;cases d<;>simp [plain] at hp
 | func Y E O _ _ _ _=>
  intro d hp
  have: ∀a b:Array Value,a.size=b.size→a.size=0→b=a:=λa b e z=>by
   have:b.size=0:=by omega
   rw [Array.size_eq_zero_iff.1 z,Array.size_eq_zero_iff.1 this]
  cases d<;>simp [plain] at hp<;>rw [this _ _ E (by simp [hp.1]),this _ _ O (by simp [hp.2])]
 | iface t _ _=>intro d hp;cases d<;>simp [plain] at hp
 | agg E _ J=>
  intro d hp
  cases d with
  | zero=>simp [plain] at hp
  | succ d=>
   simp only [plain,List.all_eq_true] at hp
   rw [Jgv E λi x y hx I=>J i x y hx I d (hp x (by simpa using Array.mem_of_getElem? hx))]
 | tuple E _ J=>
  intro d hp
  cases d with
  | zero=>simp [plain] at hp
  | succ d=>
   simp only [plain,List.all_eq_true] at hp
   rw [Jgv E λi x y hx I=>J i x y hx I d (hp x (by simpa using Array.mem_of_getElem? hx))]
 | _=>intros;rfl
end
section
inductive BK where
 | ro
 | exact
 | loose (z:Nat)
inductive Blk where
 | cells (cs:List Value) (k:BK)
 | map (es:List (Value×Value))
 | iter (m cnt:Nat) (seen:List Nat)
def Blk.rw:Blk→Bool
 | .cells _ .ro=>false
 | _=>true
abbrev G:=Nat→Option Blk
def upd {α:Type} (g:Nat→α) (l:Nat) (b:α):Nat→α:=λi=>if i=l then b else g i
theorem Xa {α:Type} (g:Nat→α) (l:Nat) (b:α):upd g l b l=b:=by simp [upd]
theorem Zd {α:Type} (g:Nat→α) {l i:Nat} (b:α) (h:i≠l):upd g l b i=g i:=by simp [upd,h]
def BlkOk (μ:Mu) (b:Blk) (m:Pl) (w:World) (B:Nat):Prop:=
 match b with
 | .cells cs k=> ∃cells elem fz,w.heap[m.b]? =some (.cells cells elem fz)∧
   (∀(i:Nat) (v:Value),cs[i]? =some v→ ∃v',cells[m.s+i]? =some v'∧VR μ v v')∧
   (match k with
    | .ro=>m.b<B
    | .exact=>B≤m.b∧fz=(0,0)
    | .loose z=>B≤m.b∧fz=(0,0)∧z=m.z∧m.s+m.K*z≤cells.size∧cs.length≤m.K*z)
 | .map es=> ∃entries,w.heap[m.b]? =some (.map entries es.length)∧B≤m.b∧entries.size=es.length∧(∀(i:Nat) (e:MapEntry),entries[i]? =some e→e.born=i)∧
   (∀(i:Nat) (kv:Value×Value),es[i]? =some kv→ ∃e:MapEntry,entries[i]? =some e∧plain 3 kv.1=true∧e.key=kv.1∧VR μ kv.2 e.val)
 | .iter l cnt seen=> ∃mm,μ l=some mm∧m.s=0∧B≤m.b∧w.heap[m.b]? =some (.mapIter (some mm.b) cnt seen.toArray cnt)
structure Sim (μ:Mu) (g:G) (n:Nat) (w:World) (B:Nat):Prop where
 dom: ∀l m,μ l=some m→l<n
 gdom: ∀l,n≤l→g l=none
 live: ∀l b m,g l=some b→μ l=some m→BlkOk μ b m w B
 inj: ∀l l' b b' m m',g l=some b→g l'=some b'→b.rw=true→b'.rw=true→μ l=some m→μ l'=some m'→m.b=m'.b→l=l'
 base:B≤w.heap.size
theorem BlkOk.rw_ge {μ:Mu} {b:Blk} {m:Pl} {w:World} {B:Nat} (h:BlkOk μ b m w B) (E:b.rw=true):B≤m.b:=by
 cases b with
 | cells cs k=>
  obtain ⟨cells,elem,I,_,_,j⟩:=h
  cases k with
  | ro=>simp [Blk.rw] at E
  | exact=>exact j.1
  | loose z=>exact j.1
 | map es=>obtain ⟨_,_,h,_⟩:=h;exact h
 | iter l c sn=>obtain ⟨_,_,_,h,_⟩:=h;exact h
theorem BlkOk.lt {μ:Mu} {b:Blk} {m:Pl} {w:World} {B:Nat} (h:BlkOk μ b m w B):m.b<w.heap.size:=by
 have: ∃x,w.heap[m.b]? =some x:=by
  cases b with
  | cells cs k=>obtain ⟨cells,elem,j,h,_⟩:=h;exact ⟨_,h⟩
  | map es=>obtain ⟨_,h,_⟩:=h;exact ⟨_,h⟩
  | iter l c sn=>obtain ⟨_,_,_,_,h⟩:=h;exact ⟨_,h⟩
 obtain ⟨x,hx⟩:=this
 exact (Array.getElem?_eq_some_iff.1 hx).1
theorem BlkOk.mono {μ μ':Mu} {b:Blk} {m:Pl} {w w':World} {B:Nat} (h:BlkOk μ b m w B) (hx:Ext μ μ') (O:w'.heap[m.b]? =w.heap[m.b]?):BlkOk μ' b m w' B:=by
 cases b with
 | cells cs k=>
  obtain ⟨cells,elem,Z,j,I,E⟩:=h
  exact ⟨cells,elem,Z,O.trans j,λi v J=>let ⟨v',a,b⟩:=I i v J;⟨v',a,b.ext hx⟩,E⟩
 | map es=>
  obtain ⟨Y,j,I,E,U,Q⟩:=h
  exact ⟨Y,O.trans j,I,E,U,λi kv J=>let ⟨e,a,b,c,d⟩:=Q i kv J;⟨e,a,b,c,d.ext hx⟩⟩
 | iter l c sn=>
  obtain ⟨V,j,I,E,Q⟩:=h
  exact ⟨V,hx _ _ j,I,E,O.trans Q⟩
def Sub (g' g:G):Prop:= ∀l,g' l=none∨g' l=g l
theorem Sub.refl (g:G):Sub g g:=λ_=> .inr rfl
theorem Sub.trans {a b c:G} (h:Sub a b) (k:Sub b c):Sub a c:=λl=>by
 rcases h l with h|h
 ·exact .inl h
 ·rcases k l with k|k
  ·exact .inl (h.trans k)
  ·exact .inr (h.trans k)
theorem Sub.upd_fresh {g' g:G} {l:Nat} (b:Option Blk) (h:Sub g' g) (j:g' l=none):Sub g' (upd g l b):=λi=>by
 by_cases e:i=l
 ·subst e;exact .inl j
 ·rw [Zd _ _ e];exact h i
theorem Sub.upd {g' g:G} (l:Nat) (b:Option Blk) (h:Sub g' g):Sub (upd g' l b) (upd g l b):=λi=>by
 by_cases e:i=l
 ·subst e;simp [Abs.upd]
 ·rw [Zd _ _ e,Zd _ _ e];exact h i
theorem Sim.sub {μ:Mu} {g g':G} {n:Nat} {w:World} {B:Nat} (h:Sim μ g n w B) (hs:Sub g' g):Sim μ g' n w B:=by
 have up: ∀l b,g' l=some b→g l=some b:=λl b e=>by rcases hs l with h|h<;>simp_all
 exact ⟨h.dom,λl j=>(hs l).elim id (λk=>k.trans (h.gdom l j)),λl b m e=>h.live l b m (up _ _ e),
  λl J b O m E e I=>h.inj l J b O m E (up _ _ e) (up _ _ I),h.base⟩
theorem Sim.next {μ:Mu} {g:G} {n n':Nat} {w:World} {B:Nat} (h:Sim μ g n w B) (j:n≤n'):Sim μ g n' w B:=
 ⟨λl m e=>Nat.lt_of_lt_of_le (h.dom l m e) j,λl E=>h.gdom l (by omega),h.live,h.inj,h.base⟩
theorem Sim.drew {μ:Mu} {g:G} {n:Nat} {w:World} {B:Nat} (h:Sim μ g n w B):Sim μ g n w.drew B:=
 ⟨h.dom,h.gdom,λl b m e f=>(h.live l b m e f).mono (Ext.refl μ) rfl,h.inj,h.base⟩
def Jcd (μ:Mu) (n:Nat) (m:Pl):Mu:=λi=>if i=n then some m else μ i
theorem XbF (μ:Mu) (n:Nat) (m:Pl):Jcd μ n m n=some m:=by simp [Jcd]
theorem Sim.newExt {μ:Mu} {g:G} {n:Nat} {w:World} {B:Nat} (h:Sim μ g n w B) (m:Pl):Ext μ (Jcd μ n m):=λl k e=>by
 have:=h.dom l k e
 simp [Jcd,show l≠n by omega,e]
theorem Sim.place {μ:Mu} {g:G} {n:Nat} {w w':World} {B:Nat} (h:Sim μ g n w B) {m:Pl} {b:Blk}
  (Y:B≤w'.heap.size) (j: ∀l Q m',g l=some Q→μ l=some m'→m'.b≠m.b∧w'.heap[m'.b]? =w.heap[m'.b]?)
  (hb:BlkOk (Jcd μ n m) b m w' B):Sim (Jcd μ n m) (upd g n (some b)) (n+1) w' B:=by
 refine ⟨?_,?_,?_,?_,Y⟩
 ·intro l k e
  by_cases E:l=n
  ·omega
  ·simp [Jcd,E] at e;have:=h.dom l k e;omega
 ·intro l E
  rw [Zd _ _ (by omega)]
  exact h.gdom l (by omega)
 ·intro l Q m' e f
  by_cases E:l=n
  ·subst E
   simp [upd] at e;simp [Jcd] at f;subst e;subst f;exact hb
  ·rw [Zd _ _ E] at e
   have f':μ l=some m':=by simpa [Jcd,E] using f
   exact (h.live l Q m' e f').mono (h.newExt m) (j l Q m' e f').2
 ·intro l J V U m1 m2 e O r Z f f' I
  by_cases E:l=n
  ·by_cases hl':J=n
   ·omega
   ·subst E
    rw [Zd _ _ hl'] at O
    have f2:μ J=some m2:=by simpa [Jcd,hl'] using f'
    simp [Jcd] at f;subst f
    exact absurd I.symm (j J U m2 O f2).1
  ·have f1:μ l=some m1:=by simpa [Jcd,E] using f
   rw [Zd _ _ E] at e
   by_cases hl':J=n
   ·subst hl'
    simp [Jcd] at f';subst f'
    exact absurd I (j l V m1 e f1).1
   ·have f2:μ J=some m2:=by simpa [Jcd,hl'] using f'
    rw [Zd _ _ hl'] at O
    exact h.inj l J V U m1 m2 e O r Z f1 f2 I
theorem Sim.alloc {μ:Mu} {g:G} {n:Nat} {w:World} {B:Nat} (h:Sim μ g n w B) {cs ds es:List Value} (Z:VRs μ cs ds) (elem:TypeId) (K z:Nat) (k:BK)
  (J:match k with| .ro=>False| .exact=>True| .loose O=>O=z∧K*z≤(ds++es).length∧cs.length≤K*z):
  Sim (Jcd μ n ⟨w.heap.size,0,K,z⟩) (upd g n (some (.cells cs k))) (n+1) (w.alloc (.cells (ds++es).toArray elem)) B:=by
 refine h.place (by simp;have:=h.base;omega) ?_ ?_
 ·intro l b' U e f
  have I:=(h.live l b' U e f).lt
  refine ⟨by simp;omega,?_⟩
  exact Below.heap_alloc _ _ _ I
 ·refine ⟨(ds++es).toArray,elem,(0,0),by show (w.heap.push _)[w.heap.size]? =_;simp,?_,?_⟩
  ·intro i v V
   obtain ⟨Y,E,j⟩:=Z.get i v V
   refine ⟨Y,?_,j.ext (h.newExt _)⟩
   have:i<ds.length:=(List.getElem?_eq_some_iff.1 E).1
   simp [List.getElem?_append_left this,E]
  ·have hb:=h.base
   cases k with
   | ro=>exact J.elim
   | exact=>exact ⟨hb,rfl⟩
   | loose O=>obtain ⟨rfl,Q,h2⟩:=J;exact ⟨hb,rfl,rfl,by simpa using Q,h2⟩
theorem Sim.load {μ:Mu} {g:G} {n:Nat} {w:World} {B:Nat} (h:Sim μ g n w B) {l o:Nat} {cs:List Value} {k:BK} {v:Value} {m:Pl}
  (I:g l=some (.cells cs k)) (hm:μ l=some m) (hc:cs[o]? =some v): ∃v',w.cell? ⟨m.b,m.s+o,none⟩=some v'∧VR μ v v':=by
 obtain ⟨cells,elem,Q,j,O,_⟩:=h.live l _ m I hm
 obtain ⟨v',J,E⟩:=O o v hc
 exact ⟨v',by simp [World.cell?,j,J],E⟩
def BK.rw:BK→Bool
 | .ro=>false
 | _=>true
theorem XeV (w:World) (a:Addr) (v:Value) (cells:Array Value) (elem:TypeId) (j:Nat×Nat) (h:w.heap[a.block]? =some (.cells cells elem j)) (hs:a.spot=none):
  (w.setCell a v).heap[a.block]? =some (.cells (cells.setIfInBounds a.off v) elem j):=by
 simp only [World.setCell,Array.getElem?_modify,if_true,h,Option.map_some,hs]
 rfl
theorem Sim.store {μ:Mu} {g:G} {n:Nat} {w:World} {B:Nat} (h:Sim μ g n w B) {l o:Nat} {cs:List Value} {k:BK} {v J:Value} {m:Pl}
  (V:g l=some (.cells cs k)) (hm:μ l=some m) (ho:o<cs.length) (hk:k.rw=true) (hr:VR μ v J):
  (∃u,w.cell? ⟨m.b,m.s+o,none⟩=some u)∧w.frozen? ⟨m.b,m.s+o,none⟩=false∧
  Sim μ (upd g l (some (.cells (cs.set o v) k))) n (w.setCell ⟨m.b,m.s+o,none⟩ J) B∧Below B w (w.setCell ⟨m.b,m.s+o,none⟩ J):=by
 have hb:=h.live l _ m V hm
 have Y:=hb.lt
 have aa:B≤m.b:=hb.rw_ge (by cases k<;>simp_all [Blk.rw,BK.rw])
 obtain ⟨cells,elem,fz,h1,h2,Z⟩:=hb
 have ac:fz=(0,0):=by cases k with
  | ro=>simp [BK.rw] at hk
  | exact=>exact Z.2
  | loose z=>exact Z.2.1
 subst ac
 obtain ⟨u,hu,_⟩:=h2 o cs[o] (by simp [ho])
 refine ⟨⟨u,by simp [World.cell?,h1,hu]⟩,by simp [World.frozen?,h1],?_,(Below.refl B w).setCell aa J⟩
 have Y:m.s+o<cells.size:=(Array.getElem?_eq_some_iff.1 hu).1
 have Q:=XeV w ⟨m.b,m.s+o,none⟩ J cells elem (0,0) h1 rfl
 refine ⟨h.dom,?_,?_,?_,by simp [World.setCell];exact h.base⟩
 ·intro i O
  have:i≠l:=λe=>by subst e;rw [h.gdom i O] at V;cases V
  rw [Zd _ _ this];exact h.gdom i O
 ·intro i b' m' e f
  by_cases O:i=l
  ·subst O
   rw [hm] at f;cases f
   simp [upd] at e;subst e
   refine ⟨_,elem,(0,0),Q,?_,?_⟩
   ·intro j x E
    rw [List.getElem?_set] at E
    by_cases hjo:o=j
    ·subst hjo
     simp [ho] at E;subst E
     exact ⟨J,by simp [Y],hr⟩
    ·simp [hjo] at E
     obtain ⟨x',af,ad⟩:=h2 j x E
     refine ⟨x',?_,ad⟩
     rw [Array.getElem?_setIfInBounds_ne (by simp;omega)];exact af
   ·cases k with
    | ro=>simp [BK.rw] at hk
    | exact=>exact Z
    | loose z=>simpa using Z
  ·rw [Zd _ _ O] at e
   have U:=h.live i b' m' e f
   have ah:m'.b≠m.b:=by
    intro I
    cases hrb:b'.rw with
    | true=>exact O (h.inj i l b' _ m' m e V hrb (by cases k<;>simp_all [Blk.rw,BK.rw]) f hm I)
    | false=>
     cases b' with
     | map es=>simp [Blk.rw] at hrb
     | iter l c sn=>simp [Blk.rw] at hrb
     | cells ai k'=>
      cases k' with
      | ro=>obtain ⟨_,_,_,_,_,ae⟩:=U;simp at ae;omega
      | exact=>simp [Blk.rw] at hrb
      | loose z=>simp [Blk.rw] at hrb
   exact U.mono (Ext.refl μ) (Below.heap_setCell _ _ _ _ (by simpa using ah))
 ·intro i i' b1 b2 m1 m2 e e' r r' f f' I
  have back: ∀(j:Nat) (b:Blk),upd g l (some (.cells (cs.set o v) k)) j=some b→b.rw=true→ ∃b0,g j=some b0∧b0.rw=true:=by
   intro j b E ab
   by_cases hjl:j=l
   ·subst hjl;exact ⟨_,V,by cases k<;>simp_all [Blk.rw,BK.rw]⟩
   ·rw [Zd _ _ hjl] at E;exact ⟨b,E,ab⟩
  obtain ⟨c1,k1,r1⟩:=back i b1 e r
  obtain ⟨c2,k2,r2⟩:=back i' b2 e' r'
  exact h.inj i i' c1 c2 m1 m2 k1 k2 r1 r2 f f' I
theorem Sim.setBlk {μ:Mu} {g:G} {n:Nat} {w w':World} {B:Nat} (h:Sim μ g n w B) {l:Nat} {b V:Blk} {m:Pl} (U:g l=some b) (J:b.rw=true) (hm:μ l=some m)
  (hw: ∀k,k≠m.b→w'.heap[k]? =w.heap[k]?) (ad:w'.heap.size=w.heap.size) (ac:BlkOk μ V m w' B):Sim μ (Abs.upd g l (some V)) n w' B:=by
 have ah:=(h.live l b m U hm).rw_ge J
 refine ⟨h.dom,?_,?_,?_,by rw [ad];exact h.base⟩
 ·intro i O
  have:i≠l:=λe=>by subst e;rw [h.gdom i O] at U;cases U
  rw [Zd _ _ this];exact h.gdom i O
 ·intro i E Z e f
  by_cases O:i=l
  ·subst O
   rw [hm] at f;cases f
   rw [Xa] at e;cases e;exact ac
  ·rw [Zd _ _ O] at e
   have Q:=h.live i E Z e f
   have Y:Z.b≠m.b:=by
    intro I
    cases hrb:E.rw with
    | true=>exact O (h.inj i l E _ Z m e U hrb J f hm I)
    | false=>
     cases E with
     | map es=>simp [Blk.rw] at hrb
     | iter l c sn=>simp [Blk.rw] at hrb
     | cells af k'=>
      cases k' with
      | ro=>obtain ⟨_,_,_,_,_,aa⟩:=Q;simp at aa;omega
      | exact=>simp [Blk.rw] at hrb
      | loose z=>simp [Blk.rw] at hrb
   exact Q.mono (Ext.refl μ) (hw _ Y)
 ·intro i i' b1 ab m1 m2 e e' r r' f f' I
  have back: ∀(j:Nat) (E:Blk),upd g l (some V) j=some E→E.rw=true→ ∃b0,g j=some b0∧b0.rw=true:=by
   intro j E hj ae
   by_cases hjl:j=l
   ·subst hjl;exact ⟨_,U,J⟩
   ·rw [Zd _ _ hjl] at hj;exact ⟨E,hj,ae⟩
  obtain ⟨c1,k1,r1⟩:=back i b1 e r
  obtain ⟨c2,k2,r2⟩:=back i' ab e' r'
  exact h.inj i i' c1 c2 m1 m2 k1 k2 r1 r2 f f' I
end
section
abbrev Env:=Nat→Value
abbrev Cont:=Value→G→Nat→Prop
abbrev CT:=FuncId→List Value→G→Nat→Cont→Prop
def Qd2:Operand→Bool
 | .tmp _=>true
 | .const v=>plain 3 v
 | .func _=>true
 | .global _=>false
def ev (t:Env):Operand→Value
 | .tmp i=>t i
 | .const v=>v
 | .func f=> .func (.func f) #[] #[]
 | .global _=>undef
def put (t:Env) (d:Option Tmp) (v:Value):Env:=
 match d with
 | some d=>λi=>if i=d then v else t i
 | none=>t
def Jbz (v:Value) (K:Bool→Prop):Prop:=match v with| .bool b=>K b|_=>False
def XfC (v:Value) (K:Int→Prop):Prop:=match v with| .int _ i=>K i|_=>False
def Xc (v:Value) (K:Nat→Nat→Prop):Prop:=match v with| .pointer (some ⟨l,o,none⟩)=>K l o|_=>False
def Jj (v:Value) (K:List Value→Prop):Prop:=match v with| .agg cs=>K cs.toList|_=>False
def ZaP (g:G) (l:Nat) (K:List Value→BK→Prop):Prop:=match g l with|some (.cells cs k)=>K cs k|_=>False
def Zef (cs:List Value) (o:Nat) (K:Value→Prop):Prop:=match cs[o]? with|some v=>K v|none=>False
def kLd (g:G) (l o:Nat) (K:Value→Prop):Prop:=ZaP g l λcs _=>Zef cs o K
def Ql (g:G) (l o k:Nat) (K:List Value→Prop):Prop:=ZaP g l λcs _=>o+k≤cs.length∧K ((cs.drop o).take k)
def Zl (cs:List Value) (k:BK) (g:G) (n:Nat) (K:Nat→G→Nat→Prop):Prop:=g n=none→K n (upd g n (some (.cells cs k))) (n+1)
def splice (cs:List Value) (o:Nat) (vs:List Value):List Value:=cs.take o++vs++cs.drop (o+vs.length)
def kSt (g:G) (l o:Nat) (v:Value) (K:G→Prop):Prop:=ZaP g l λcs k=>k.rw=true∧o<cs.length∧isCell v=true∧K (upd g l (some (.cells (cs.set o v) k)))
def Qu (g:G) (l o:Nat) (vs:List Value) (K:G→Prop):Prop:=
 ZaP g l λcs k=>k.rw=true∧o+vs.length≤cs.length∧(∀v∈vs,isCell v=true)∧K (upd g l (some (.cells (splice cs o vs) k)))
def ptr (l o:Nat):Value:= .pointer (some ⟨l,o,none⟩)
def evS {α:Type} (P:Program):Sem α→Option α
 | .pure a=>some a
 | .program k=>evS P (k P)
 | _=>none
theorem Qgf {α:Type} {P:Program}: ∀{s:Sem α} {a:α},evS P s=some a→ ∀w,s.run P w= .ok a w
 | .pure a,b,h,w=>by simp [evS] at h;subst h;rfl
 | .program k,b,h,w=>by simp only [evS] at h;exact Qgf (s:=k P) h w
 | .load ..,_,h,_=>by simp [evS] at h
 | .store ..,_,h,_=>by simp [evS] at h
 | .new ..,_,h,_=>by simp [evS] at h
 | .shape ..,_,h,_=>by simp [evS] at h
 | .freeze ..,_,h,_=>by simp [evS] at h
 | .frozen ..,_,h,_=>by simp [evS] at h
 | .getObj ..,_,h,_=>by simp [evS] at h
 | .setObj ..,_,h,_=>by simp [evS] at h
 | .choose ..,_,h,_=>by simp [evS] at h
 | .sys ..,_,h,_=>by simp [evS] at h
 | .mark ..,_,h,_=>by simp [evS] at h
 | .halt ..,_,h,_=>by simp [evS] at h
def ZH (op:BinOp) (k:IntKind) (a b:Int) (K:Value→Prop):Prop:=
 match op with
 | .add=>K (.int k (k.wrap (a+b)))
 | .sub=>K (.int k (k.wrap (a-b)))
 | .mul=>K (.int k (k.wrap (a*b)))
 | .quo=>b≠0∧K (.int k (k.wrap (a.tdiv b)))
 | .rem=>b≠0∧K (.int k (a.tmod b))
 | .and=>K (.int k (k.wrap (BitVec.ofInt k.bits a &&& BitVec.ofInt k.bits b).toNat))
 | .or=>K (.int k (k.wrap (BitVec.ofInt k.bits a ||| BitVec.ofInt k.bits b).toNat))
 | .xor=>K (.int k (k.wrap (BitVec.ofInt k.bits a ^^^ BitVec.ofInt k.bits b).toNat))
 | .andNot=>K (.int k (k.wrap (BitVec.ofInt k.bits a &&& ~~~BitVec.ofInt k.bits b).toNat))
 | .eql=>K (.bool (a==b))
 | .neq=>K (.bool (a !=b))
 | .lss=>K (.bool (decide (a<b)))
 | .leq=>K (.bool (decide (a≤b)))
 | .gtr=>K (.bool (decide (a>b)))
 | .geq=>K (.bool (decide (a≥b)))
 | .shl=>0≤b∧K (.int k (k.wrap (a*2^(min b.toNat k.bits))))
 | .shr=>0≤b∧K (.int k (a.fdiv (2^(min b.toNat k.bits))))
inductive LK where
 | b|i|s
def QcO:LK→Value→Value→Option Bool
 | .b,.bool a,.bool b=>some (a==b)
 | .i,.int k a,.int k' b=>if k=k' then some (a==b) else none
 | .s,.string a,.string b=>some (a==b)
 | _,_,_=>none
def Zo:List LK→List Value→List Value→Option Bool
 | [],[],[]=>some true
 | k::ks,x::xs,y::ys=>match QcO k x y,Zo ks xs ys with
  | some a,some b=>some (a&&b)
  | _,_=>none
 | _,_,_=>none
inductive EK where
 | int|bool|ptr|slice|agg (ks:List LK)|str|other
def Qev (op:BinOp) (r:Bool) (K:Value→Prop):Prop:=
 match op with
 | .eql=>K (.bool r)
 | .neq=>K (.bool (!r))
 | _=>False
def Jb (e:EK) (op:BinOp) (x y:Value) (K:Value→Prop):Prop:=
 match e with
 | .int=>match x,y with
  | .int k a,.int k' b=>(match op with| .shl| .shr=>True|_=>k=k')∧ZH op k a b K
  | _,_=>False
 | .bool=>match x,y with
  | .bool a,.bool b=>Qev op (a==b) K
  | _,_=>False
 | .ptr=>match x,y with
  | .pointer none,.pointer q=>Qev op q.isNone K
  | .pointer (some _),.pointer none=>Qev op false K
  | _,_=>False
 | .slice=>match x,y with
  | .slice a _ _,.slice none _ _=>Qev op a.isNone K
  | _,_=>False
 | .agg ks=>match x,y with
  | .agg xs,.agg ys=>match Zo ks xs.toList ys.toList with
   | some r=>Qev op r K
   | none=>False
  | _,_=>False
 | .str=>match x,y with
  | .string a,.string b=>Qev op (a==b) K
  | _,_=>False
 | .other=>False
def kUn (op:UnOp) (x:Value) (K:Value→Prop):Prop:=
 match op,x with
 | .not,.bool b=>K (.bool !b)
 | .neg,.int k a=>K (.int k (k.wrap (0-a)))
 | _,_=>False
def XaQ (dst:IntKind) (x:Value) (K:Value→Prop):Prop:=match x with| .int _ a=>K (.int dst (dst.wrap a))|_=>False
def Xf (x:Value) (K:Value→Prop):Prop:=match x with
 | .pointer (some a)=>K (.pointer (some a))
 | .func (.func f) a b=>K (.func (.func f) a b)
 | .slice a n c=>K (.slice a n c)
 | .int k n=>K (.int k n)
 | .bool b=>K (.bool b)
 | _=>False
def JaS (x:Value) (off:Nat) (K:Value→Prop):Prop:=Xc x λl o=>K (ptr l (o+off))
def Jd (x i:Value) (z:Nat) (K:Value→Prop):Prop:=
 match x,i with
 | .slice (some ⟨l,o,none⟩) len _,.int _ j=>0≤j∧j<len∧K (ptr l (o+j.toNat*z))
 | _,_=>False
def Ji (x i:Value) (len z:Nat) (K:Value→Prop):Prop:=
 match x,i with
 | .pointer (some ⟨l,o,none⟩),.int _ j=>0≤j∧j<len∧K (ptr l (o+j.toNat*z))
 | _,_=>False
def Xbf (cs:List Value) (off:Nat) (agg:Option Nat) (K:Value→Prop):Prop:=
 match agg with
 | none=>Zef cs off K
 | some k=>off+k≤cs.length∧K (.agg ((cs.drop off).take k).toArray)
def JdY (x i:Value) (len z:Nat) (agg:Option Nat) (K:Value→Prop):Prop:=
 Jj x λcs=>XfC i λj=>0≤j∧j<len∧Xbf cs (j.toNat*z) agg K
def Qc (x:Value) (i:Nat) (K:Value→Prop):Prop:=match x with| .tuple vs=>Zef vs.toList i K|_=>False
def Jak (x:Value) (K:Value→Prop):Prop:=match x with| .slice _ n _=>K (.int .i64 n)|_=>False
def ZW (x:Option Value) (d m:Nat) (K:Nat→Prop):Prop:=
 match x with
 | none=>K d
 | some v=>XfC v λi=>0≤i∧i≤m∧K i.toNat
def Xx (x:Value) (lo hi mx:Option Value) (z:Nat) (K:Value→Prop):Prop:=
 match x with
 | .slice a len c=>
  if c<LC then
   ZW mx c c λm=>ZW hi len m λh=>ZW lo 0 h λl=>K (.slice (if m=l then a else a.map (·.add (l*z))) (h-l) (m-l))
  else
   c=LC+z∧match mx with
   | none=>ZW hi len len λh=>ZW lo 0 h λl=>K (.slice (a.map (·.add (l*z))) (h-l) (LC+z))
   | some mx=>ZW (some mx) 0 len λm=>m<LC∧ZW hi 0 m λh=>ZW lo 0 h λl=>K (.slice (a.map (·.add (l*z))) (h-l) (m-l))
 | _=>False
def Xar (g:G) (x:Value) (k z:Nat) (K:List Value→Prop):Prop:=
 match x with
 | .slice none _ _=>k*z=0∧K []
 | .slice (some ⟨l,o,none⟩) _ _=>if k*z=0 then K [] else Ql g l o (k*z) K
 | _=>False
def lenOf (x:Value):Nat:=match x with| .slice _ n _=>n|_=>0
def Zs (s x:Value) (z bytes:Nat) (g:G) (n:Nat) (K:Cont):Prop:=
 match s,x with
 | .slice base len c,.slice _ k _=>
  bytes≤1048576∧(len+k)*bytes≤140737488355328∧len+k<140737488355328∧Xar g x k z λnew=>(∀v∈new,isCell v=true)∧
  if c<LC then
   if len+k≤c then
    match base with
    | none=>new=[]∧K (.slice none (len+k) c) g n
    | some ⟨l,o,none⟩=>if new=[] then K (.slice (some ⟨l,o,none⟩) (len+k) c) g n else Qu g l (o+len*z) new λg=>K (.slice (some ⟨l,o,none⟩) (len+k) c) g n
    | _=>False
   else Xar g s len z λold=>Zl (old++new) (.loose z) g n λl g n=>K (.slice (some ⟨l,0,none⟩) (len+k) (LC+z)) g n
  else match base with
   | some ⟨l,o,none⟩=>c=LC+z∧ZaP g l λcs bk=>(match bk with| .loose z'=>z'=z|_=>False)∧o+len*z≤cs.length∧
     (g n=none→K (.slice (some ⟨n,0,none⟩) (len+k) (LC+z)) (upd (upd g l none) n (some (.cells (((cs.drop o).take (len*z))++new) (.loose z)))) (n+1))
   | _=>False
 | _,_=>False
def reps (k:Nat) (z:List Value):List Value:=(List.replicate k z).flatten
def Jbm (s x:Value) (zero:List Value) (bytes:Nat) (g:G) (n:Nat) (K:Cont):Prop:=
 match s,x with
 | .slice none 0 0,.int .i64 a=>0<zero.length∧0<a∧a<1099511627776∧a.toNat*bytes≤1099511627776∧
  Zl (reps a.toNat zero) (.loose zero.length) g n λl g n=>K (.slice (some ⟨l,0,none⟩) a.toNat (LC+zero.length)) g n
 | _,_=>False
def Jcg (d s:Value) (z:Nat) (g:G) (K:Value→G→Prop):Prop:=
 match d,s with
 | .slice base len _,.slice _ k _=>Xar g s (min k len) z λnew=>(∀v∈new,isCell v=true)∧
  match base with
  | none=>K (.int .i64 (min k len:Nat)) g
  | some ⟨l,o,none⟩=>if new=[] then K (.int .i64 (min k len:Nat)) g else Qu g l o new λg=>K (.int .i64 (min k len:Nat)) g
  | _=>False
 | _,_=>False
def Xaz (x:Value) (zero:List Value) (g:G) (K:Value→G→Prop):Prop:=
 match x with
 | .slice none _ _=>K undef g
 | .slice (some ⟨l,o,none⟩) len _=>if len=0∨zero=[] then K undef g else Qu g l o (reps len zero) λg=>K undef g
 | _=>False
def Zcr (len cap:Value) (zero:List Value) (bytes:Nat) (g:G) (n:Nat) (K:Cont):Prop:=
 XfC len λa=>XfC cap λc=>0≤a∧a≤c∧c*bytes≤1099511627776∧c≤1099511627776∧
  Zl (reps c.toNat zero) .exact g n λl g n=>K (.slice (some ⟨l,0,none⟩) a.toNat c.toNat) g n
def Qf (cs:List Value):List (Nat×Option Nat×Value)→(List Value→Prop)→Prop
 | [],K=>K cs
 |(off,none,v)::r,K=>isCell v=true∧off<cs.length∧Qf (cs.set off v) r K
 |(off,some k,v)::r,K=>Jj v λvs=>vs.length=k∧off+k≤cs.length∧Qf (splice cs off vs) r K
def Qbu (C:CT) (f:Value) (args:List Value) (g:G) (n:Nat) (K:Cont):Prop:=
 match f with
 | .func (.func f) a b=>C f (a.toList++args++b.toList) g n K
 | _=>False
def QcL (P:Program) (t:TypeId) (K:Nat→Prop):Prop:=match P.info? t with|some i=>K i.size|none=>False
def QaJ (P:Program) (t:TypeId) (K:Option Nat→Prop):Prop:=
 match P.underlying t with
 | some (.struct _)|some (.array _ _)=>QcL P t λk=>K (some k)
 | some _=>QcL P t λk=>match k==1 with|true=>K none|false=>False
 | none=>False
def zeroOf (P:Program) (t:TypeId) (K:List Value→Nat→Prop):Prop:=
 match P.info? t with
 | some i=>match i.zero with
  | some z=>match plain 3 z&&z.cells.toList.all isCell&&(z.cells.size==i.size) with
   | true=>K z.cells.toList i.bytes
   | false=>False
  | none=>False
 | none=>False
def eqFields (P:Program) (F:TypeId→Option (List LK)):List Field→Nat→Option (List LK)
 | [],_=>some []
 | f::fs,at_=>if f.name= "_" ∨f.offset≠at_ then none else
  match F f.type,P.info? f.type with
  | some ks,some i=>if i.size=ks.length then (eqFields P F fs (at_+ks.length)).map (ks++ ·) else none
  | _,_=>none
def ZgU (P:Program):Nat→TypeId→Option (List LK)
 | 0=>λ_=>none
 | d+1=>λt=>
  match P.underlying t with
  | some .bool=>some [.b]
  | some (.int _)=>some [.i]
  | some .string=>some [.s]
  | some (.struct fs)=>if P.stoodInHeld t then none else eqFields P (ZgU P d) fs.toList 0
  | some (.array len e)=>match ZgU P d e,P.info? e with
   | some ks,some i=>if i.size=ks.length then some (List.replicate len ks).flatten else none
   | _,_=>none
  | _=>none
def Jf9 (P:Program) (t:TypeId):EK:=
 match P.underlying t with
 | some (.int _)=> .int
 | some .string=> .str
 | some .bool=> .bool
 | some (.pointer _)=> .ptr
 | some (.slice _)=> .slice
 | some (.struct _)|some (.array _ _)=>match ZgU P 6 t,P.eqGuardType P.depth t with
  | some ks,false=> .agg ks
  | _,_=> .other
 | _=> .other
def partsOf (P:Program) (t:Env) (place:Nat→Option (Nat×TypeId)):List (Nat×Operand)→(List (Nat×Option Nat×Value)→Prop)→Prop
 | [],K=>K []
 |(i,x)::r,K=>match place i with
  | some (off,ty)=>QaJ P ty λa=>partsOf P t place r λl=>K ((off,a,ev t x)::l)
  | none=>False
def XhT (P:Program) (ty:TypeId) (v:Value) (g:G) (n:Nat) (K:Nat→G→Nat→Prop):Prop:=
 QaJ P ty λa=>match a with
 | some _=>Jj v λcs=>Zl cs .exact g n K
 | none=>isCell v=true∧Zl [v] .exact g n K
def Jef (kk:IntKind) (a:Int):List (Value×Value)→Nat→Option (Option Nat)
 | [],_=>some none
 |(.int k b,_)::es,i=>if k=kk then (if a=b then some (some i) else Jef kk a es (i+1)) else none
 | _::_,_=>none
def JeE (g:G) (l:Nat) (K:List (Value×Value)→Prop):Prop:=match g l with|some (.map es)=>K es|_=>False
def JgP (kk:IntKind) (key:Value) (K:Int→Prop):Prop:=match key with| .int k a=>k=kk∧K a|_=>False
def JcW (kk:IntKind) (a:Int) (es:List (Value×Value)) (K:Option Nat→Prop):Prop:=match Jef kk a es 0 with|some r=>K r|none=>False
def kAt (es:List (Value×Value)) (i:Nat) (K:Value×Value→Prop):Prop:=match es[i]? with|some e=>K e|none=>False
def ZeV (b:Blk) (g:G) (n:Nat) (K:Nat→G→Nat→Prop):Prop:=g n=none→K n (upd g n (some b)) (n+1)
def Jeg (P:Program) (t:TypeId) (K:Value→Prop):Prop:=
 match P.info? t with
 | some i=>match i.zero with
  | some z=>match plain 3 z with
   | true=>K z
   | false=>False
  | none=>False
 | none=>False
def Qce (kk:IntKind) (x ix z:Value) (ok:Bool) (g:G) (K:Value→Prop):Prop:=
 JgP kk ix λa=>match x with
 | .map none=>K (match ok with|true=> .tuple #[z,.bool false]|false=>z)
 | .map (some l)=>JeE g l λes=>JcW kk a es λr=>match r with
  | some i=>kAt es i λe=>K (match ok with|true=> .tuple #[e.2,.bool true]|false=>e.2)
  | none=>K (match ok with|true=> .tuple #[z,.bool false]|false=>z)
 | _=>False
def ZaV (kk:IntKind) (m key x:Value) (g:G) (K:G→Prop):Prop:=
 JgP kk key λa=>match m with
 | .map (some l)=>JeE g l λes=>JcW kk a es λr=>match r with
  | some i=>K (upd g l (some (.map (es.set i (.int kk a,x)))))
  | none=>K (upd g l (some (.map (es++[(.int kk a,x)]))))
 | _=>False
def Xb8 (kk:IntKind) (m key z:Value) (g:G) (K:Value→G→Prop):Prop:=
 JgP kk key λa=>match m with
 | .map (some l)=>JeE g l λes=>JcW kk a es λr=>match r with
  | some i=>kAt es i λe=>K (.tuple #[e.2,.int .i64 i]) (upd g l (some (.map (es.set i (.int kk a,e.2)))))
  | none=>K (.tuple #[z,.int .i64 es.length]) (upd g l (some (.map (es++[(.int kk a,z)]))))
 | _=>False
def Zbc (m s x:Value) (g:G) (K:G→Prop):Prop:=
 XfC s λj=>match m with
 | .map (some l)=>JeE g l λes=>0≤j∧kAt es j.toNat λe=>K (upd g l (some (.map (es.set j.toNat (e.1,x)))))
 | _=>False
def Xdd (x:Value) (g:G) (n:Nat) (K:Nat→G→Nat→Prop):Prop:=
 match x with
 | .map (some l)=>JeE g l λes=>ZeV (.iter l es.length []) g n K
 | _=>False
def Xee (it:Value) (g:G) (K:Nat→Nat→List (Value×Value)→List Nat→Prop):Prop:=
 match it with
 | .pointer (some ⟨p,0,none⟩)=>match g p with
  | some (.iter l cnt seen)=>JeE g l λes=>es.length=cnt∧K p l es seen
  | _=>False
 | _=>False
def Zgv (it:Value) (g:G) (K:Value→G→Prop):Prop:=
 Xee it g λp l es seen=>((∀i,i<es.length→i∈seen)→K (.tuple #[.bool false]) g)∧
  ∀(i:Nat) (kv:Value×Value),i∉seen→es[i]? =some kv→K (.tuple #[.bool true,kv.1,kv.2]) (upd g p (some (.iter l es.length (seen++[i]))))
def ZeR (it:Value) (g:G) (K:Value→Prop):Prop:=
 Xee it g λ_ _ es seen=>match seen.getLast? with
 | some i=>kAt es i λkv=>K (.tuple #[kv.1,kv.2])
 | none=>False
def Xho (x:Value) (K:Value→Prop):Prop:=match x with| .slice _ _ c=>(if c<LC then K (.int .i64 (c:Nat)) else False)|_=>False
def QdO (x:Value) (K:Value→Prop):Prop:=match x with| .string s=>K (.int .i64 (s.size:Nat))|_=>False
def QdS (x i:Value) (K:Value→Prop):Prop:=
 match x,i with
 | .string s,.int _ j=>0≤j∧(match s[j.toNat]? with|some b=>K (.int .u8 (b.toNat:Nat))|none=>False)
 | _,_=>False
def Xh0 (x y:Value) (K:Value→Prop):Prop:=match x,y with| .int k a,.int k' b=>k=k'∧K (.int k (if b<a then b else a))|_,_=>False
def ZeH (P:Program) (b:Builtin) (vs:List Value) (tys:List TypeId) (K:Value→Prop):Prop:=
 match b with
 | .cap=>match vs,tys with
  | x::_,ty::_=>match P.underlying ty with
   | some (.slice _)=>Xho x K
   | _=>False
  | _,_=>False
 | .min=>match vs,tys with
  | [x,y],[ty,_]=>match P.underlying ty with
   | some (.int _)=>Xh0 x y K
   | _=>False
  | _,_=>False
 | _=>False
def mapOf (P:Program) (t:TypeId) (K:IntKind→TypeId→Prop):Prop:=
 match P.underlying t with
 | some (.map kt e)=>match P.underlying kt with
  | some (.int kk)=>K kk e
  | _=>False
 | _=>False
def aop (P:Program) (C:CT) (o:Oper) (t:Env) (g:G) (n:Nat) (K:Cont):Prop:=
 match o.op.operands.toList.all Qd2 with
 | false=>False
 | true=>
  match o.op with
  | .move x| .assign x=>K (ev t x) g n
  | .pick c x y=>Jbz (ev t c) λb=>K (bif b then ev t x else ev t y) g n
  | .alloc e=>zeroOf P e λz _=>Zl z .exact g n λl g n=>K (ptr l 0) g n
  | .box e x=>XhT P e (ev t x) g n λl g n=>K (ptr l 0) g n
  | .build ty parts=>zeroOf P ty λz _=>match P.underlying ty with
   | some (.struct fs)=>match fs.toList.all (λf=>(P.info? f.type).isSome) with|false=>False|true=>partsOf P t (λi=>(fs[i]?).map λf=>(f.offset,f.type)) parts.toList λl=>Qf z l λcs=>K (.agg cs.toArray) g n
   | some (.array _ e)=>QcL P e λk=>partsOf P t (λi=>some (i*k,e)) parts.toList λl=>Qf z l λcs=>K (.agg cs.toArray) g n
   | _=>False
  | .buildSlice ty len parts=>match P.underlying ty with
   | some (.slice e)=>zeroOf P e λz _=>match decide (len*z.length≤1000000)&&decide (len≤1000000) with
    | true=>partsOf P t (λi=>some (i*z.length,e)) parts.toList λl=>Qf (reps len z) l λcs=>Zl cs .exact g n λl g n=>K (.slice (some ⟨l,0,none⟩) len len) g n
    | false=>False
   | _=>False
  | .load ty a=>Xc (ev t a) λl o=>QaJ P ty λa=>match a with
   | some k=>Ql g l o k λcs=>K (.agg cs.toArray) g n
   | none=>kLd g l o λv=>K v g n
  | .store ty a x=>Xc (ev t a) λl o=>QaJ P ty λa=>match a with
   | some k=>Jj (ev t x) λcs=>cs.length=k∧Qu g l o cs λg=>K undef g n
   | none=>kSt g l o (ev t x) λg=>K undef g n
  | .nilCheck x=>Xf (ev t x) λv=>K v g n
  | .binOp op xt x y _=>Jb (Jf9 P xt) op (ev t x) (ev t y) λv=>K v g n
  | .unOp op _ x=>kUn op (ev t x) λv=>K v g n
  | .convert src dst x=>match P.underlying src,P.underlying dst with
   | some _,some (.int k)=>XaQ k (ev t x) λv=>K v g n
   | _,_=>False
  | .makeFunc fn first captured=>K (.func fn (first.map (ev t)) (captured.map (ev t))) g n
  | .makeSlice ty l c=>match P.underlying ty with
   | some (.slice e)=>zeroOf P e λz bytes=>Zcr (ev t l) (ev t c) z bytes g n K
   | _=>False
  | .slice ty x lo hi mx=>match P.underlying ty,hi.isNone&&mx.isSome with
   | some (.slice e),false=>QcL P e λz=>Xx (ev t x) (lo.map (ev t)) (hi.map (ev t)) (mx.map (ev t)) z λv=>K v g n
   | _,_=>False
  | .fieldAddr s x f=>match P.underlying s with
   | some (.struct fs)=>match fs[f]? with
    | some fd=>QcL P fd.type λk=>match k==0 with
     | true=>False
     | false=>JaS (ev t x) fd.offset λv=>K v g n
    | none=>False
   | _=>False
  | .field xt x f=>match P.underlying xt with
   | some (.struct fs)=>match fs[f]? with
    | some fd=>QaJ P fd.type λa=>Jj (ev t x) λcs=>Xbf cs fd.offset a λv=>K v g n
    | none=>False
   | _=>False
  | .indexAddr ty x i=>match P.underlying ty with
   | some (.slice e)=>QcL P e λz=>Jd (ev t x) (ev t i) z λv=>K v g n
   | some (.array len e)=>QcL P e λz=>Ji (ev t x) (ev t i) len z λv=>K v g n
   | _=>False
  | .index xt x i=>match P.underlying xt with
   | some (.array len e)=>QcL P e λz=>QaJ P e λa=>JdY (ev t x) (ev t i) len z a λv=>K v g n
   | some .string=>QdS (ev t x) (ev t i) λv=>K v g n
   | _=>False
  | .extract x i=>Qc (ev t x) i λv=>K v g n
  | .call c=>match c.callee with
   | .value f=>Qbu C (ev t f) (c.args.toList.map (ev t)) g n K
   | .invoke _ _=>False
   | .builtin b=>match b,c.args.toList,c.argTypes.toList with
    | .len,x::_,ty::_=>match P.underlying ty with
     | some (.slice _)=>Jak (ev t x) λv=>K v g n
     | some (.array len _)=>K (.int .i64 len) g n
     | some .string=>QdO (ev t x) λv=>K v g n
     | _=>False
    | .append,s::x::_,ty::tx::_=>match P.underlying ty,P.underlying tx with
     | some (.slice e),some (.slice _)=>zeroOf P e λz bytes=>Zs (ev t s) (ev t x) z.length bytes g n K
     | some (.slice e),some (.int _)=>zeroOf P e λz bytes=>Jbm (ev t s) (ev t x) z bytes g n K
     | _,_=>False
    | .copy,d::s::_,ty::_=>match P.underlying ty with
     | some (.slice e)=>QcL P e λz=>Jcg (ev t d) (ev t s) z g λv g=>K v g n
     | _=>False
    | .clear,x::_,ty::_=>match P.underlying ty with
     | some (.slice e)=>zeroOf P e λz _=>Xaz (ev t x) z g λv g=>K v g n
     | _=>False
    | b',xs,ts=>ZeH P b' (xs.map (ev t)) ts λv=>K v g n
  | .makeMap ty r=>match r with
   | none=>ZeV (.map []) g n λl g n=>K (.map (some l)) g n
   | some x=>match P.underlying ty with
    | some (.map _ _)=>XfC (ev t x) λ_=>ZeV (.map []) g n λl g n=>K (.map (some l)) g n
    | _=>False
  | .lookup xt x i ok=>mapOf P xt λkk e=>Jeg P e λz=>Qce kk (ev t x) (ev t i) z ok g λv=>K v g n
  | .mapUpdate ty m k x| .insert ty m k x=>mapOf P ty λkk _=>ZaV kk (ev t m) (ev t k) (ev t x) g λg=>K undef g n
  | .mapEntry ty m k=>mapOf P ty λkk e=>Jeg P e λz=>Xb8 kk (ev t m) (ev t k) z g λv g=>K v g n
  | .entryStore _ m s x=>Zbc (ev t m) (ev t s) (ev t x) g λg=>K undef g n
  | .range xt x=>match P.underlying xt with
   | some (.map _ _)=>Xdd (ev t x) g n λl g n=>K (ptr l 0) g n
   | _=>False
  | .next it false=>Zgv (ev t it) g λv g=>K v g n
  | .entry it=>ZeR (ev t it) g λv=>K v g n
  | _=>False
end
section
def Fin (B:Nat) (w:World) (μ:Mu) (K:Cont) (v':Value) (w':World):Prop:=
 ∃v g n μ',K v g n∧VR μ' v v'∧Sim μ' g n w' B∧Ext μ μ'∧Below B w w'
def Zg2 (B:Nat) (w:World) (μ:Mu) (K:Cont) (e:Ending) (w':World):Prop:=
 match e with
 | .returned v'=>Fin B w μ K v' w'
 | .panicked _=>False
 | .outgrown=>False
def Upon (P:Program) (B:Nat) (w:World) (μ:Mu) (K:Cont):Result Next→Prop
 | .ok (.value v') w'=>Fin B w μ K v' w'
 | .ok .skip w'=>Fin B w μ K undef w'
 | .ok (.enter f args) w'=>Calls P f args w' (Zg2 B w μ K)
 | .ok (.row row args) w'=>Rows P row args w' (Fin B w μ K)
 | _=>False
theorem Fin.mono {B:Nat} {w I:World} {μ μ0:Mu} {K E:Cont} {j:Value} {w':World} (h:Fin B w μ K j w') (J: ∀v g n,K v g n→E v g n) (hx:Ext μ0 μ) (hb:Below B I w):
  Fin B I μ0 E j w':=by
 obtain ⟨v,g,n,μ',k,r,s,x,b⟩:=h
 exact ⟨v,g,n,μ',J _ _ _ k,r,s,hx.trans x,hb.trans b⟩
theorem Upon.mono {P:Program} {B:Nat} {w J:World} {μ μ0:Mu} {K I:Cont} {r:Result Next} (h:Upon P B w μ K r) (j: ∀v g n,K v g n→I v g n) (hx:Ext μ0 μ) (hb:Below B J w):
  Upon P B J μ0 I r:=by
 cases r with
 | ok x w'=>
  cases x<;>simp only [Upon] at h ⊢ <;>first
   | exact h.mono j hx hb
   | exact h.elim
   | exact Calls.mono h λe E he=>by cases e<;>simp only [Zg2] at he ⊢ <;>exact he.mono j hx hb
   | exact Rows.mono h λv E he=>he.mono j hx hb
 | halt x w'=>exact h.elim
def JbG (P:Program):CT:=λf args g n K=>
 ∀(μ:Mu) (w:World) (B:Nat) (cargs:Array Value),Sim μ g n w B→VRs μ args cargs.toList→Upon P B w μ K ((callFunc f cargs).run P w)
structure EnvR (μ:Mu) (N:Nat) (t:Env) (a:Act):Prop where
 size:a.tmps.size=N
 rel: ∀i,VR μ (t i) (a.tmps.getD i undef)
theorem Xat (μ:Mu):VR μ undef undef:= .tuple rfl (by intro i x y h;simp at h)
theorem EnvR.ev {μ:Mu} {N:Nat} {t:Env} {a:Act} (h:EnvR μ N t a) {x:Operand} (hx:Qd2 x=true):VR μ (ev t x) (a.eval x):=by
 cases x with
 | tmp i=>exact h.rel i
 | const v=>exact XaW μ 3 v hx
 | global g=>simp [Qd2] at hx
 | func f=>exact .func _ rfl rfl (by intro i x u h;simp at h) (by intro i x u h;simp at h)
theorem EnvR.ext {μ μ':Mu} {N:Nat} {t:Env} {a:Act} (h:EnvR μ N t a) (hx:Ext μ μ'):EnvR μ' N t a:=⟨h.size,λi=>(h.rel i).ext hx⟩
theorem EnvR.put {μ:Mu} {N:Nat} {t:Env} {a:Act} (h:EnvR μ N t a) {v E:Value} (J:VR μ v E) (d:Option Tmp) (hd: ∀i,d=some i→i<N):EnvR μ N (put t d v) (a.put d E):=by
 cases d with
 | none=>exact h
 | some d=>
  have hd:=hd d rfl
  refine ⟨by simp [Act.put,h.size],λi=> ?_⟩
  simp only [Abs.put,Act.put]
  have j:=h.size
  by_cases hi:i=d
  ·subst hi
   have I:i<a.tmps.size:=j▸hd
   simp [Array.getD,I]
   exact J
  ·have:=h.rel i
   rw [if_neg hi]
   have e:(a.tmps.setIfInBounds d E).getD i undef=a.tmps.getD i undef:=by
    simp only [Array.getD_eq_getD_getElem?]
    rw [Array.getElem?_setIfInBounds_ne (Ne.symm hi)]
   rw [e];exact this
section
variable {P:Program} {B:Nat} {w:World} {μ:Mu} {g:G} {n:Nat} {K:Cont}
theorem Xl (hs:Sim μ g n w B) {v j:Value} (E:VR μ v j) (I:K v g n):Fin B w μ K j w:=⟨v,g,n,μ,I,E,hs,Ext.refl μ,Below.refl B w⟩
theorem Xdo {v j:Value} {J:Nat→Nat→Prop} (E:VR μ v j) (h:Xc v J): ∃l o m,v= .pointer (some ⟨l,o,none⟩)∧μ l=some m∧j= .pointer (some ⟨m.b,m.s+o,none⟩)∧J l o:=by
 unfold Xc at h
 split at h
 ·rename_i l o
  cases E with
  | @ptr _ m _ hm=>exact ⟨l,o,m,rfl,hm,rfl,h⟩
 ·exact h.elim
theorem ZX {l:Nat} {J:List Value→BK→Prop} (h:ZaP g l J): ∃cs k,g l=some (.cells cs k)∧J cs k:=by
 unfold ZaP at h
 split at h
 ·rename_i cs k e;exact ⟨cs,k,e,h⟩
 ·exact h.elim
theorem XbJ {cs:List Value} {o:Nat} {J:Value→Prop} (h:Zef cs o J): ∃v,cs[o]? =some v∧J v:=by
 unfold Zef at h
 split at h
 ·rename_i v e;exact ⟨v,e,h⟩
 ·exact h.elim
theorem QbP {v:Value} {J:List Value→Prop} (h:Jj v J): ∃cs,v= .agg cs∧J cs.toList:=by
 unfold Jj at h
 split at h
 ·rename_i cs;exact ⟨cs,rfl,h⟩
 ·exact h.elim
theorem JbL {v:Value} {J:Int→Prop} (h:XfC v J): ∃k i,v= .int k i∧J i:=by
 unfold XfC at h
 split at h
 ·rename_i k i;exact ⟨k,i,rfl,h⟩
 ·exact h.elim
theorem XeJ {v:Value} {J:Bool→Prop} (h:Jbz v J): ∃b,v= .bool b∧J b:=by
 unfold Jbz at h
 split at h
 ·rename_i b;exact ⟨b,rfl,h⟩
 ·exact h.elim
theorem ZaX {ty:TypeId} {J:Nat→Prop} (h:QcL P ty J): ∃i,P.info? ty=some i∧J i.size:=by
 unfold QcL at h
 split at h
 ·rename_i i e;exact ⟨i,e,h⟩
 ·exact h.elim
theorem Qbf {ty:TypeId} {J:Option Nat→Prop} (h:QaJ P ty J):
  (∃i,P.info? ty=some i∧(∀w:World,(isAgg ty).run P w= .ok true w)∧J (some i.size))∨(∃i,P.info? ty=some i∧i.size=1∧(∀w:World,(isAgg ty).run P w= .ok false w)∧J none):=by
 unfold QaJ at h
 split at h
 ·rename_i O e
  obtain ⟨i,E,j⟩:=ZaX h
  exact .inl ⟨i,E,λw=>by simp [isAgg,underlying,e],j⟩
 ·rename_i a b e
  obtain ⟨i,E,j⟩:=ZaX h
  exact .inl ⟨i,E,λw=>by simp [isAgg,underlying,e],j⟩
 ·rename_i d Q U e
  obtain ⟨i,E,j⟩:=ZaX h
  split at j
  ·rename_i I
   refine .inr ⟨i,E,by simpa using I,λw=> ?_,j⟩
   cases d<;>simp [isAgg,underlying,e]<;>simp_all
  ·exact j.elim
 ·exact h.elim
theorem Zh {ty:TypeId} {i:TypeInfo} (h:P.info? ty=some i) (w:World):(sizeOf ty).run P w= .ok i.size w:=by
 simp [sizeOf,typeInfo,h]
theorem Zcm (hs:Sim μ g n w B) {l o k:Nat} {cs:List Value} {bk:BK} {m:Pl} (Q:g l=some (.cells cs bk)) (hm:μ l=some m) (V:o+k≤cs.length):
  ∃vs:List Value,(loadCells ⟨m.b,m.s+o,none⟩ k).run P w= .ok vs.toArray w∧VRs μ ((cs.drop o).take k) vs:=by
 have hc: ∀j,j<k→ ∃v',w.cell? ⟨m.b,m.s+(o+j),none⟩=some v'∧VR μ (cs.getD (o+j) undef) v':=by
  intro j I
  obtain ⟨v',E,O⟩:=hs.load Q hm (o:=o+j) (v:=cs.getD (o+j) undef) (by
   rw [List.getD_eq_getElem?_getD,List.getElem?_eq_getElem (by omega)];rfl)
  exact ⟨v',E,O⟩
 let f:Nat→Value:=λj=>(w.cell? ⟨m.b,m.s+(o+j),none⟩).getD undef
 have U: ∀j,j<k→w.cell? ((⟨m.b,m.s+o,none⟩:Addr).add j)=some (f j):=by
  intro j I
  obtain ⟨v',E,_⟩:=hc j I
  have:(⟨m.b,m.s+o,none⟩:Addr).add j=⟨m.b,m.s+(o+j),none⟩:=by
   unfold Addr.add;split<;>simp_all<;>omega
  rw [this,E];simp [f,E]
 refine ⟨(List.range k).map f,?_,?_⟩
 ·have:=run_loadCells (P:=P) w ⟨m.b,m.s+o,none⟩ k f U
  simpa using this
 ·refine VRs.of_get (by simp;omega) ?_
  intro j x y hx J
  have I:j<k:=by
   have:=(List.getElem?_eq_some_iff.1 J).1
   simpa using this
  simp [I,List.getElem?_drop] at hx
  simp [I] at J
  obtain ⟨v',E,O⟩:=hc j I
  have:y=v':=by rw [←J];simp [f,E]
  subst this
  simpa [List.getD_eq_getElem?_getD,hx] using O
end
end
section
variable {P:Program} {B:Nat} {w:World} {μ:Mu} {g:G} {n:Nat} {K:Cont}
theorem QbV (b o j:Nat):(⟨b,o,none⟩:Addr).add j=⟨b,o+j,none⟩:=by
 unfold Addr.add;split<;>simp_all
theorem JfL (hs:Sim μ g n w B) {ty:TypeId} {v Y:Value} (Z:VR μ v Y)
  (h:Xc v λl o=>QaJ P ty λa=>match a with
   | some k=>Ql g l o k λcs=>K (.agg cs.toArray) g n
   | none=>kLd g l o λv=>K v g n):
  ∃x,(Instr.loadAt ty Y).run P w= .ok x w∧Fin B w μ K x w:=by
 obtain ⟨l,o,m,rfl,hm,rfl,h⟩:=Xdo Z h
 rcases Qbf h with ⟨i,V,Q,J⟩|⟨i,V,_,Q,J⟩
 ·obtain ⟨cs,k,O,ho,j⟩:=ZX J
  obtain ⟨vs,E,U⟩:=Zcm (P:=P) hs O hm ho
  exact ⟨.agg vs.toArray,by simp [Instr.loadAt,Instr.sureAddr,loadVar,Q,Zh V,E],Xl hs U.agg j⟩
 ·obtain ⟨cs,k,O,j⟩:=ZX J
  obtain ⟨x,hx,j⟩:=XbJ j
  obtain ⟨x',hc,I⟩:=hs.load O hm hx
  exact ⟨x',by simp [Instr.loadAt,Instr.sureAddr,loadVar,Q,hc],Xl hs I j⟩
theorem Qp {a:Addr} {v u:Value} (hc:w.cell? a=some u) (E:w.frozen? a=false) (j:isCell v=true):
  (store a v).run P w= .ok () (w.setCell a v):=by
 cases v<;>simp_all [store,Sem.run,isCell]
theorem Qeu (cs:List Value) (p:Nat) (v:Value) (h:p<cs.length):(cs.set p v).take (p+1)=cs.take p++[v]:=by
 apply List.ext_getElem?
 intro q
 by_cases h1:q<p
 ·rw [List.getElem?_append_left (by simp;omega)]
  simp [h1,show q<p+1 by omega,show ¬p=q by omega]
 ·by_cases h2:q=p
  ·subst h2
   rw [List.getElem?_append_right (by simp;omega)]
   simp [h,Nat.min_eq_left (Nat.le_of_lt h)]
  ·rw [List.getElem?_eq_none (by simp;omega),List.getElem?_eq_none (by simp;omega)]
theorem QeW (cs:List Value) (p k:Nat) (v:Value) (h:p<k):(cs.set p v).drop k=cs.drop k:=by
 apply List.ext_getElem?
 intro q
 simp only [List.getElem?_drop]
 rw [List.getElem?_set_ne (by omega)]
theorem Qd1 (cs:List Value) (p:Nat) (v:Value) (vs:List Value) (h:p<cs.length):splice (cs.set p v) (p+1) vs=splice cs p (v::vs):=by
 unfold splice
 rw [Qeu _ _ _ h,QeW _ _ _ _ (by omega)]
 simp [show p+1+vs.length=p+(vs.length+1) by omega]
theorem Jdv: ∀(vs E:List Value) (i:Nat) (w:World) (g:G) (l o:Nat) (cs:List Value) (k:BK) (m:Pl),Sim μ g n w B→g l=some (.cells cs k)→μ l=some m→
  o+i+vs.length≤cs.length→k.rw=true→VRs μ vs E→(∀v∈vs,isCell v=true)→
  ∃w',(storeCells ⟨m.b,m.s+o,none⟩ E i).run P w= .ok () w'∧Sim μ (upd g l (some (.cells (splice cs (o+i) vs) k))) n w' B∧Below B w w'
 | [],E,i,w,g,l,o,cs,k,m,hs,V,hm,ho,O,U,hc=>by
  cases U
  refine ⟨w,by simp [storeCells],?_,Below.refl B w⟩
  have:upd g l (some (.cells (splice cs (o+i) []) k))=g:=by
   funext j
   by_cases hj:j=l
   ·subst hj;simp [upd,splice,V]
   ·simp [upd,hj]
  rw [this];exact hs
 | v::vs,_,i,w,g,l,o,cs,k,m,hs,V,hm,ho,O,.cons (y:=v') (ys:=E) hv U,hc=>by
  simp only [List.length_cons] at ho
  obtain ⟨⟨u,hu⟩,hf,Q,aa⟩:=hs.store V hm (o:=o+i) (by omega) O hv
  have I:isCell v'=true:=by rw [hv.isCell];exact hc v (by simp)
  obtain ⟨w',J,Z,Y⟩:=Jdv vs E (i+1) (w.setCell ⟨m.b,m.s+(o+i),none⟩ v') _ l o (cs.set (o+i) v) k m Q (by simp [upd]) hm (by simp;omega) O U (λx hx=>hc x (by simp [hx]))
  refine ⟨w',?_,?_,aa.trans Y⟩
  ·simp only [storeCells,Sem.run_bind,QbV]
   rw [show m.s+o+i=m.s+(o+i) by omega,Qp hu hf I]
   simpa using J
  ·have e:upd (upd g l (some (.cells (cs.set (o+i) v) k))) l (some (.cells (splice (cs.set (o+i) v) (o+(i+1)) vs) k))=upd g l (some (.cells (splice cs (o+i) (v::vs)) k)):=by
    funext j
    by_cases hj:j=l
    ·subst hj
     simp only [upd,if_true,Option.some.injEq,Blk.cells.injEq,and_true]
     rw [show o+(i+1)=o+i+1 by omega,Qd1 _ _ _ _ (by omega)]
    ·simp [upd,hj]
   rw [←e];exact Z
theorem Jcl (hs:Sim μ g n w B) {l o:Nat} {vs j:List Value} {J:G→Prop} {m:Pl} (hm:μ l=some m) (Q:VRs μ vs j) (h:Qu g l o vs J):
  ∃w' g',(storeCells ⟨m.b,m.s+o,none⟩ j).run P w= .ok () w'∧J g'∧Sim μ g' n w' B∧Below B w w':=by
 obtain ⟨cs,k,U,E,Z,hc,O⟩:=ZX h
 obtain ⟨w',I,Y,V⟩:=Jdv (P:=P) vs j 0 w g l o cs k m hs U hm (by simpa using Z) E Q hc
 exact ⟨w',_,I,O,by simpa using Y,V⟩
theorem Je8 (hs:Sim μ g n w B) {ty:TypeId} {v v' x x':Value} (hr:VR μ v v') (hx:VR μ x x')
  (h:Xc v λl o=>QaJ P ty λa=>match a with
   | some k=>Jj x λcs=>cs.length=k∧Qu g l o cs λg=>K undef g n
   | none=>kSt g l o x λg=>K undef g n):
  ∃w',(Instr.storeAt ty v' x').run P w= .ok () w'∧Fin B w μ K undef w':=by
 obtain ⟨l,o,m,rfl,hm,rfl,h⟩:=Xdo hr h
 rcases Qbf h with ⟨i,V,ha,E⟩|⟨i,V,h1,ha,E⟩
 ·obtain ⟨cs,rfl,J,E⟩:=QbP E
  obtain ⟨ys,rfl,O⟩:=hx.agg_inv
  obtain ⟨w',g',Q,U,aa,hb⟩:=Jcl (P:=P) hs hm O E
  refine ⟨w',?_,undef,g',n,μ,U,Xat μ,aa,Ext.refl μ,hb⟩
  have:ys.size=i.size:=by have:=O.length;simp at this J;omega
  simp [Instr.storeAt,Instr.sureAddr,storeVar,Zh V,Value.cells,this,Q]
 ·obtain ⟨cs,k,hg,U,ho,hc,E⟩:=ZX E
  obtain ⟨⟨u,hu⟩,hf,Y,Z⟩:=hs.store hg hm ho U hx
  have I:isCell x'=true:=by rw [hx.isCell];exact hc
  have j:x'.cells= #[x']:=by cases x'<;>simp_all [Value.cells,isCell]
  refine ⟨_,?_,undef,_,n,μ,E,Xat μ,Y,Ext.refl μ,Z⟩
  simp [Instr.storeAt,Instr.sureAddr,storeVar,Zh V,j,h1,storeCells,QbV,Qp hu hf I]
theorem Jea (hs:Sim μ g n w B) {cs ds:List Value} (E:VRs μ cs ds) (elem:TypeId) {J:Nat→G→Nat→Prop} (h:Zl cs .exact g n J):
  ∃g' μ' m,J n g' (n+1)∧μ' n=some m∧m.b=w.heap.size∧m.s=0∧Sim μ' g' (n+1) (w.alloc (.cells ds.toArray elem)) B∧Ext μ μ'∧Below B w (w.alloc (.cells ds.toArray elem)):=by
 have I:=h (hs.gdom n (Nat.le_refl n))
 have j:=hs.alloc E (es:=[]) elem 0 0 .exact trivial
 rw [List.append_nil] at j
 exact ⟨_,_,_,I,XbF _ _ _,rfl,rfl,j,hs.newExt _,(Below.refl B w).alloc hs.base _⟩
theorem Zem (hs:Sim μ g n w B) {cs ds:List Value} (J:VRs μ cs ds) (elem:TypeId) (h:Zl cs .exact g n λl g n=>K (ptr l 0) g n):
  Fin B w μ K (.pointer (some ⟨w.heap.size,0,none⟩)) (w.alloc (.cells ds.toArray elem)):=by
 obtain ⟨g',μ',m,I,hm,hb,O,E,hx,j⟩:=Jea hs J elem h
 refine ⟨_,g',n+1,μ',I,?_,E,hx,j⟩
 have:=VR.ptr (μ:=μ') 0 hm
 rw [hb,O] at this
 exact this
theorem Qd0 (hs:Sim μ g n w B) {cs ds:List Value} (O:VRs μ cs ds) (elem:TypeId) {len cap:Nat} (hc:cap<LC) (J:len≤cap) (h:Zl cs .exact g n λl g n=>K (.slice (some ⟨l,0,none⟩) len cap) g n):
  Fin B w μ K (.slice (some ⟨w.heap.size,0,none⟩) len cap) (w.alloc (.cells ds.toArray elem)):=by
 obtain ⟨g',μ',m,I,hm,hb,Q,E,hx,j⟩:=Jea hs O elem h
 refine ⟨_,g',n+1,μ',I,?_,E,hx,j⟩
 exact VR.slx (μ:=μ') 0 len cap ⟨w.heap.size,0,none⟩ hc J hm (.inl (by rw [hb,Q]))
theorem XaI {ty:TypeId} {J:List Value→Nat→Prop} (h:zeroOf P ty J):
  ∃i z,P.info? ty=some i∧i.zero=some z∧plain 3 z=true∧(∀v∈z.cells.toList,isCell v=true)∧z.cells.size=i.size∧J z.cells.toList i.bytes:=by
 unfold zeroOf at h
 split at h
 ·rename_i i j
  split at h
  ·rename_i z E
   split at h
   ·rename_i hc
    simp only [Bool.and_eq_true,List.all_eq_true,beq_iff_eq] at hc
    exact ⟨i,z,j,E,hc.1.1,hc.1.2,hc.2,h⟩
   ·exact h.elim
  ·exact h.elim
 ·exact h.elim
theorem Ze1 (hs:Sim μ g n w B) {e:TypeId} (h:zeroOf P e λz _=>Zl z .exact g n λl g n=>K (ptr l 0) g n):
  ∃v w',(Instr.alloc e true (.tuple #[])).run P w= .ok v w'∧Fin B w μ K v w':=by
 obtain ⟨i,z,j,I,hp,_,_,h⟩:=XaI h
 have E:=(XaW μ 3 z hp).cells
 refine ⟨_,_,?_,Zem hs E e h⟩
 simp [Instr.alloc,zeroValue,typeInfo,j,I,newVar,newRow]
theorem XgN (hs:Sim μ g n w B) {e:TypeId} {v I:Value} (J:VR μ v I) (h:XhT P e v g n λl g n=>K (ptr l 0) g n):
  ∃x w',(Instr.box e I).run P w= .ok x w'∧Fin B w μ K x w':=by
 have E:(Instr.box e I).run P w= .ok (.pointer (some ⟨w.heap.size,0,none⟩)) (w.alloc (.cells I.cells.toList.toArray e)):=by
  simp [Instr.box,newVar,newRow]
 refine ⟨_,_,E,?_⟩
 rcases Qbf h with ⟨i,O,Q,j⟩|⟨i,O,U,Q,j⟩
 ·obtain ⟨cs,rfl,j⟩:=QbP j
  exact Zem hs J.cells e j
 ·have hc:v.cells.toList=[v]:=by obtain ⟨hc,_⟩:=j;cases v<;>simp_all [Value.cells,isCell]
  refine Zem hs J.cells e ?_
  rw [hc];exact j.2
end
section
variable {P:Program} {B:Nat} {w:World} {μ:Mu} {g:G} {n:Nat} {K:Cont}
theorem JdC: ∀(vs:List Value) (k off:Nat) (cs:List Value),off+k+vs.length≤cs.length→
  ((vs.zipIdx k).foldl (λcs (x:Value×Nat)=>cs.set (off+x.2) x.1) cs)=splice cs (off+k) vs
 | [],k,off,cs,h=>by simp [splice]
 | v::vs,k,off,cs,h=>by
  simp only [List.length_cons] at h
  rw [List.zipIdx_cons,List.foldl_cons,JdC vs (k+1) off _ (by simp;omega),show off+(k+1)=off+k+1 by omega,Qd1 _ _ _ _ (by omega)]
theorem XgU (vs:Array Value) (off:Nat) (cs:Array Value) (h:off+vs.size≤cs.size):
  (vs.zipIdx.foldl (λcs (c,j)=>cs.setIfInBounds (off+j) c) cs).toList=splice cs.toList off vs.toList:=by
 have E:=JdC vs.toList 0 off cs.toList (by simpa using h)
 rw [Nat.add_zero] at E
 rw [←E,←Array.foldl_toList]
 have: ∀(l:List (Value×Nat)) (c:Array Value),(l.foldl (λcs (x:Value×Nat)=>cs.setIfInBounds (off+x.2) x.1) c).toList=l.foldl (λcs x=>cs.set (off+x.2) x.1) c.toList:=by
  intro l
  induction l with
  | nil=>intro c;rfl
  | cons x l I=>intro c;simp only [List.foldl_cons];rw [I];simp
 simpa using this vs.zipIdx.toList cs
theorem VRs.set {xs ys:List Value} (h:VRs μ xs ys) {v j:Value} (I:VR μ v j): ∀o,VRs μ (xs.set o v) (ys.set o j):=by
 induction h with
 | nil=>intro o;exact .nil
 | cons a t E=>
  intro o
  cases o with
  | zero=>exact .cons I t
  | succ o=>exact .cons a (E o)
theorem VRs.splice {xs ys vs us:List Value} (h:VRs μ xs ys) (k:VRs μ vs us) (o:Nat):VRs μ (splice xs o vs) (splice ys o us):=by
 unfold Abs.splice
 rw [k.length]
 exact ((h.take o).append k).append (h.drop _)
inductive ZdK (P:Program) (μ:Mu) (place:Nat→Option (Nat×Nat)):List (Nat×Option Nat×Value)→List (Nat×Value)→Prop
 | nil:ZdK P μ place [] []
 | agg {off k i:Nat} {v v':Value} {l l'}:place i=some (off,k)→VR μ v v'→ZdK P μ place l l'→ZdK P μ place ((off,some k,v)::l) ((i,v')::l')
 | one {off i:Nat} {v v':Value} {l l'}:place i=some (off,1)→VR μ v v'→ZdK P μ place l l'→ZdK P μ place ((off,none,v)::l) ((i,v')::l')
theorem Xbh {t:Env} {a:Act} {N:Nat} (he:EnvR μ N t a) {pl:Nat→Option (Nat×TypeId)} {place:Nat→Option (Nat×Nat)}
  (E: ∀i off ty inf,pl i=some (off,ty)→P.info? ty=some inf→place i=some (off,inf.size)):
  ∀(parts:List (Nat×Operand)) {J:List (Nat×Option Nat×Value)→Prop},(∀x∈parts,Qd2 x.2=true)→partsOf P t pl parts J→
   ∃l,J l∧ZdK P μ place l (parts.map λx=>(x.1,a.eval x.2))
 | [],J,_,h=>⟨[],h,.nil⟩
 |(i,x)::r,J,j,h=>by
  simp only [partsOf] at h
  split at h
  ·rename_i off ty e
   rcases Qbf h with ⟨inf,O,_,U⟩|⟨inf,O,Y,_,U⟩
   ·obtain ⟨l,I,V⟩:=Xbh he E r (λy Q=>j y (by simp [Q])) U
    exact ⟨_,I,.agg (E i off ty inf e O) (he.ev (j (i,x) (by simp))) V⟩
   ·obtain ⟨l,I,V⟩:=Xbh he E r (λy Q=>j y (by simp [Q])) U
    have:=E i off ty inf e O
    rw [Y] at this
    exact ⟨_,I,.one this (he.ev (j (i,x) (by simp))) V⟩
  ·exact h.elim
theorem QcE {place:Nat→Option (Nat×Nat)} {l:List (Nat×Option Nat×Value)} {l':List (Nat×Value)} (hp:ZdK P μ place l l'):
  ∀{cs:List Value} {ds:Array Value} {J:List Value→Prop},VRs μ cs ds.toList→Qf cs l J→ ∃out E,J out∧Instr.fill place ds l'=some E∧VRs μ out E.toList:=by
 induction hp with
 | nil=>intro cs ds J U h;exact ⟨cs,ds,h,rfl,U⟩
 | @agg off k i v Z l l' O hv _ ih=>
  intro cs ds J U h
  simp only [Qf] at h
  obtain ⟨vs,rfl,aa,ac,h⟩:=QbP h
  obtain ⟨us,rfl,ab⟩:=hv.agg_inv
  have ad:=ab.length
  have Q:=U.length
  simp only [Array.length_toList] at aa ad Q
  have hf:=XgU us off ds (by omega)
  have Y:VRs μ (splice cs off vs.toList) (us.zipIdx.foldl (λcs (c,j)=>cs.setIfInBounds (off+j) c) ds).toList:=by
   rw [hf];exact U.splice ab off
  obtain ⟨out,E,h1,h2,h3⟩:=ih Y h
  refine ⟨out,E,h1,?_,h3⟩
  unfold Instr.fill
  simp only [O]
  split
  ·rename_i hc
   have hc:=(Bool.or_eq_true_iff ..).1 hc
   rcases hc with hc|hc
   ·exact absurd (show us.size=k by omega) (of_decide_eq_true hc)
   ·have:=of_decide_eq_true hc;simp only [Value.cells] at this;omega
  ·exact h2
 | @one off i v Z l l' O hv _ ih=>
  intro cs ds J U h
  simp only [Qf] at h
  obtain ⟨hc,ac,h⟩:=h
  have Q:=U.length
  simp only [Array.length_toList] at Q
  have V:Z.cells= #[Z]:=by have:=hv.isCell;rw [hc] at this;cases Z<;>simp_all [Value.cells,isCell]
  have Y:VRs μ (cs.set off v) (ds.setIfInBounds off Z).toList:=by simpa using U.set hv off
  obtain ⟨out,E,h1,h2,h3⟩:=ih Y h
  refine ⟨out,E,h1,?_,h3⟩
  unfold Instr.fill
  simp only [O]
  split
  ·rename_i I
   have I:=(Bool.or_eq_true_iff ..).1 I
   rcases I with I|I
   ·exact absurd (show Z.cells.size=1 by rw [V];rfl) (of_decide_eq_true I)
   ·have:=of_decide_eq_true I;rw [V] at this;simp at this;omega
  ·simpa [V] using h2
theorem QcM {z:Value} (h:plain 3 z=true):VRs μ z.cells.toList z.cells.toList:=(XaW μ 3 z h).cells
theorem XcV (k:Nat) (z:List Value):reps (k+1) z=z++reps k z:=by simp [reps,List.replicate_succ]
theorem XbL (k:Nat) (z:List Value):(reps k z).length=k*z.length:=by
 induction k with
 | zero=>simp [reps]
 | succ k j=>rw [XcV,List.length_append,j,Nat.succ_mul];omega
theorem Jfp (z:List Value): ∀(k i:Nat),i<k*z.length→(reps k z)[i]? =z[i%z.length]?
 | 0,i,h=>by simp at h
 | k+1,i,h=>by
  rw [XcV]
  have E:0<z.length:=by
   rcases Nat.eq_zero_or_pos z.length with j|j
   ·simp [j] at h
   ·exact j
  by_cases hi:i<z.length
  ·rw [List.getElem?_append_left hi,Nat.mod_eq_of_lt hi]
  ·rw [List.getElem?_append_right (by omega),Jfp z k (i-z.length) (by rw [Nat.add_mul,Nat.one_mul] at h;omega)]
   congr 1
   exact (Nat.mod_eq_sub_mod (by omega)).symm
theorem Xdp (z:Array Value) (k m:Nat) (hm:m=k*z.size):((Array.range m).map (λi=>z[i%z.size]!)).toList=reps k z.toList:=by
 subst hm
 apply List.ext_getElem?
 intro i
 by_cases h:i<k*z.size
 ·have I:0<z.size:=by
   rcases Nat.eq_zero_or_pos z.size with E|E
   ·simp [E] at h
   ·exact E
  have j:i%z.size<z.size:=Nat.mod_lt _ I
  rw [Jfp _ _ _ (by simpa using h)]
  simp [h,j]
 ·rw [List.getElem?_eq_none (by simp;omega),List.getElem?_eq_none (by rw [XbL];simp;omega)]
theorem VRs.reps {z j:List Value} (h:VRs μ z j): ∀k,VRs μ (Abs.reps k z) (Abs.reps k j)
 | 0=>by simpa [Abs.reps] using VRs.nil
 | k+1=>by rw [XcV,XcV];exact h.append (VRs.reps h k)
theorem Zdq {ty:TypeId} {i:TypeInfo} (h:P.info? ty=some i) (w:World):(typeInfo ty).run P w= .ok i w:=by simp [typeInfo,h]
theorem Qe1 {t:Env} {a:Act} {N:Nat} (hs:Sim μ g n w B) (he:EnvR μ N t a) {ty:TypeId} {parts:Array (Nat×Operand)} (ab: ∀x∈parts.toList,Qd2 x.2=true)
  (h:zeroOf P ty λz _=>match P.underlying ty with
   | some (.struct Z)=>match Z.toList.all (λf=>(P.info? f.type).isSome) with|false=>False|true=>partsOf P t (λi=>(Z[i]?).map λf=>(f.offset,f.type)) parts.toList λl=>Qf z l λcs=>K (.agg cs.toArray) g n
   | some (.array _ e)=>QcL P e λk=>partsOf P t (λi=>some (i*k,e)) parts.toList λl=>Qf z l λcs=>K (.agg cs.toArray) g n
   | _=>False):
  ∃v,(Instr.build ty (parts.map λ(i,x)=>(i,a.eval x))).run P w= .ok v w∧Fin B w μ K v w:=by
 obtain ⟨inf,z,hi,hz,hp,_,ae,h⟩:=XaI h
 have ad:VRs μ z.cells.toList z.cells.toList:=QcM hp
 split at h
 ·rename_i Z hu
  split at h
  ·exact h.elim
  rename_i I
  have I: ∀f∈Z.toList,∃i,P.info? f.type=some i:=λf O=>Option.isSome_iff_exists.1 (List.all_eq_true.1 I f O)
  have hplaces: ∀(fl:List Field),(∀f∈fl,∃i,P.info? f.type=some i)→ ∃places,fl.mapM (λf=>(P.info? f.type).map λi=>(f.offset,i.size))=some places∧
    ∀(i:Nat) (f:Field) (inf:TypeInfo),fl[i]? =some f→P.info? f.type=some inf→places[i]? =some (f.offset,inf.size):=by
   intro fl
   induction fl with
   | nil=>intro _;exact ⟨[],rfl,by intro i f inf h;simp at h⟩
   | cons f fl ih=>
    intro O
    obtain ⟨i0,ac⟩:=O f (by simp)
    obtain ⟨pl,V,Y⟩:=ih λx hx=>O x (by simp [hx])
    refine ⟨(f.offset,i0.size)::pl,by simp [List.mapM_cons,ac,V],?_⟩
    intro i f' inf J Q
    cases i with
    | zero=>simp at J;subst J;rw [ac] at Q;cases Q;rfl
    | succ i=>exact Y i f' inf (by simpa using J) Q
  obtain ⟨places,V,Y⟩:=hplaces Z.toList I
  obtain ⟨l,hl,U⟩:=Xbh (place:=(places.toArray[·]?)) he (by
   intro i off ty inf J Q
   cases O:Z[i]? with
   | none=>simp [O] at J
   | some f=>
    simp [O] at J
    obtain ⟨rfl,rfl⟩:=J
    simpa using Y i f inf (by simpa using O) Q) parts.toList ab h
  obtain ⟨out,j,hk,E,hr⟩:=QcE (P:=P) U ad hl
  refine ⟨.agg j,run_build w ty _ j ?_,Xl hs (by simpa using hr.agg) hk⟩
  unfold Program.built
  simpa [hi,hu,hz,V] using E
 ·rename_i len e hu
  obtain ⟨ie,aa,h⟩:=ZaX h
  obtain ⟨l,hl,U⟩:=Xbh (place:=λi=>some (i*ie.size,ie.size)) he (by
   intro i off ty inf J Q
   simp at J
   obtain ⟨rfl,rfl⟩:=J
   rw [aa] at Q;cases Q;rfl) parts.toList ab h
  obtain ⟨out,j,hk,E,hr⟩:=QcE (P:=P) U ad hl
  refine ⟨.agg j,run_build w ty _ j ?_,Xl hs (by simpa using hr.agg) hk⟩
  unfold Program.built
  simpa [hi,hu,hz,aa] using E
 ·exact h.elim
theorem Qdj {t:Env} {a:Act} {N:Nat} (hs:Sim μ g n w B) (he:EnvR μ N t a) {ty e:TypeId} {len:Nat} {parts:Array (Nat×Operand)} (U: ∀x∈parts.toList,Qd2 x.2=true)
  (hu:P.underlying ty=some (.slice e))
  (h:zeroOf P e λz _=>match decide (len*z.length≤1000000)&&decide (len≤1000000) with
    | true=>partsOf P t (λi=>some (i*z.length,e)) parts.toList λl=>Qf (reps len z) l λcs=>Zl cs .exact g n λl g n=>K (.slice (some ⟨l,0,none⟩) len len) g n
    | false=>False):
  ∃v w',(Instr.buildSlice ty len (parts.map λ(i,x)=>(i,a.eval x))).run P w= .ok v w'∧Fin B w μ K v w':=by
 obtain ⟨inf,z,O,hz,hp,_,E,h⟩:=XaI h
 have Y:VRs μ z.cells.toList z.cells.toList:=QcM hp
 split at h
 ·rename_i hb
  obtain ⟨hb,ac⟩:len*z.cells.toList.length≤1000000∧len≤1000000:=by simpa using hb
  simp only [Array.length_toList] at hb h
  obtain ⟨l,hl,Q⟩:=Xbh (place:=λi=>some (i*inf.size,inf.size)) he (by
   intro i off ty aa Z h2
   simp at Z
   obtain ⟨rfl,rfl⟩:=Z
   rw [O] at h2;cases h2;rw [E]) parts.toList U h
  have I:((Array.range (len*inf.size)).map (λi=>(if len*inf.size=0 then (#[]:Array Value) else z.cells)[i%(if len*inf.size=0 then (#[]:Array Value) else z.cells).size]!)).toList=reps len z.cells.toList:=by
   by_cases h0:len*inf.size=0
   ·simp only [h0,if_true]
    have:reps len z.cells.toList=[]:=by
     apply List.eq_nil_of_length_eq_zero
     rw [XbL];simp only [Array.length_toList,E,h0]
    rw [this];simp
   ·simp only [h0,if_false]
    exact Xdp z.cells len _ (by rw [E])
  obtain ⟨out,ab,hk,j,hr⟩:=QcE (P:=P) (ds:=(Array.range (len*inf.size)).map (λi=>(if len*inf.size=0 then (#[]:Array Value) else z.cells)[i%(if len*inf.size=0 then (#[]:Array Value) else z.cells).size]!)) Q (by rw [I];exact Y.reps len) hl
  have J:len<LC:=by simp only [LC];omega
  refine ⟨_,_,?_,Qd0 hs hr e J (Nat.le_refl _) hk⟩
  rw [E] at hb
  have V:(zeroValue e).run P w= .ok z w:=by simp [zeroValue,typeInfo,O,hz]
  by_cases h0:len*inf.size=0
  ·simp only [h0,if_true] at j
   unfold Instr.buildSlice
   simp only [Sem.run_bind,run_underlying hu,Result.andThen_ok,Zh O]
   rw [if_neg (by omega)]
   simp only [h0,if_true,Sem.run_bind,Sem.run_pure,Result.andThen_ok]
   simp at j
   simp [j,newRow]
  ·simp only [h0,if_false] at j
   unfold Instr.buildSlice
   simp only [Sem.run_bind,run_underlying hu,Result.andThen_ok,Zh O]
   rw [if_neg (by omega)]
   simp only [h0,if_false,Sem.run_bind,Sem.run_pure,Result.andThen_ok,V]
   simp [j,newRow]
 ·exact h.elim
end
section
variable {P:Program} {B:Nat} {w:World} {μ:Mu} {g:G} {n:Nat} {K:Cont}
theorem Qbd: ∀{ks ls:List LK} {a b:List Value} {r:Bool},Zo (ks++ls) a b=some r→
  ∃r1 r2,Zo ks (a.take ks.length) (b.take ks.length)=some r1∧Zo ls (a.drop ks.length) (b.drop ks.length)=some r2∧r=(r1&&r2)
 | [],ls,a,b,r,h=>⟨true,r,rfl,by simpa using h,by simp⟩
 | k::ks,ls,x::a,y::b,r,h=>by
  simp only [List.cons_append,Zo] at h
  split at h
  ·rename_i p q hp hq
   obtain ⟨r1,r2,j,I,E⟩:=Qbd hq
   cases h
   exact ⟨p&&r1,r2,by simp [Zo,hp,j],by simpa using I,by rw [E,Bool.and_assoc]⟩
  ·cases h
 | _::_,_,[],_,_,h=>by simp [Zo] at h
 | _::_,_,_::_,[],_,h=>by simp [Zo] at h
theorem JeT {k:LK} {x y:Value} {r:Bool} (h:QcO k x y=some r):plain 0 x=true∧plain 0 y=true:=by
 unfold QcO at h
 split at h<;>simp_all [plain]
theorem JcZ: ∀{ks:List LK} {a b j E:List Value} {r:Bool},Zo ks a b=some r→VRs μ a j→VRs μ b E→j=a∧E=b
 | [],[],[],_,_,_,_,.nil,.nil=>⟨rfl,rfl⟩
 | k::ks,x::a,y::b,_,_,r,h,.cons hx Q,.cons J hb=>by
  simp only [Zo] at h
  split at h
  ·rename_i p q hp hq
   obtain ⟨I,V⟩:=JcZ hq Q hb
   obtain ⟨O,U⟩:=JeT hp
   rw [I,V,XcK hx 0 O,XcK J 0 U];exact ⟨rfl,rfl⟩
  ·cases h
 | [],_::_,_,_,_,_,h,_,_=>by simp [Zo] at h
 | [],[],_::_,_,_,_,h,_,_=>by simp [Zo] at h
 | _::_,[],_,_,_,_,h,_,_=>by simp [Zo] at h
 | _::_,_::_,[],_,_,_,h,_,_=>by simp [Zo] at h
theorem Jfy {t:TypeId} {i:TypeInfo} {d:TypeDesc} (E:P.info? t=some i) (J:P.underlying t=some d) (xs:Array Value) (off:Nat)
  (h:(∃j,d= .struct j)∨(∃n e,d= .array n e)):(part t xs off).run P w= .ok (.agg (xs.extract off (off+i.size))) w:=by
 have I:(isAgg t).run P w= .ok true w:=by rcases h with ⟨j,rfl⟩|⟨n,e,rfl⟩<;>simp [isAgg,underlying,J]
 simp [part,I,Zh E]
theorem Xdf {t:TypeId} {d:TypeDesc} (J:P.underlying t=some d) (xs:Array Value) (off:Nat) (v:Value) (E:xs[off]? =some v)
  (h: ∀I,d≠ .struct I) (O: ∀n e,d≠ .array n e):(part t xs off).run P w= .ok v w:=by
 have j:(isAgg t).run P w= .ok false w:=by cases d<;>simp [isAgg,underlying,J]<;>simp_all
 simp [part,j,E]
def Qer (P:Program) (d:Nat) (t:TypeId) (ks:List LK):Prop:=
 ∀(d':Nat) (xs ys:List Value) (r:Bool) (w:World),d≤d'→Zo ks xs ys=some r→
  ((∃fs,P.underlying t=some (.struct fs))∨(∃n e,P.underlying t=some (.array n e)))∧(Op.equalIn d' t (.agg xs.toArray) (.agg ys.toArray)).run P w= .ok r w∨
  (∃x,P.underlying t=some x∧(∀fs,x≠ .struct fs)∧(∀n e,x≠ .array n e))∧ ∃x y,xs=[x]∧ys=[y]∧(Op.equalIn d' t x y).run P w= .ok r w
theorem Xd7 (xs:List Value) (off k:Nat):(xs.toArray.extract off (off+k)).toList=(xs.drop off).take k:=by
 simp [List.extract_eq_take_drop]
theorem take_one {xs:List Value} {off k:Nat} {x:Value} (h:(xs.drop off).take k=[x]):xs[off]? =some x:=by
 cases hd:xs.drop off with
 | nil=>simp [hd] at h
 | cons y r=>
  cases k with
  | zero=>simp at h
  | succ k=>
   simp [hd] at h
   have:=List.getElem?_drop (xs:=xs) (i:=off) (j:=0)
   rw [hd] at this
   simp at this
   rw [←this,h.1]
theorem Xgr {d:Nat} {t:TypeId} {ks:List LK} {i:TypeInfo} (hk:Qer P d t ks) (Z:P.info? t=some i) (J:i.size=ks.length) {V:Nat} (hd:d≤V) (xs ys:List Value) (off:Nat) {r:Bool}
  (hr:Zo ks ((xs.drop off).take ks.length) ((ys.drop off).take ks.length)=some r):
  ((do let a ←part t xs.toArray off;let b ←part t ys.toArray off;Op.equalIn V t a b:Sem Bool)).run P w= .ok r w:=by
 rcases hk V _ _ r w hd hr with ⟨j,hs⟩|⟨⟨x,hx,E,I⟩,a,b,ha,hb,hs⟩
 ·obtain ⟨x,hx,j⟩: ∃x,P.underlying t=some x∧((∃O,x= .struct O)∨(∃n e,x= .array n e)):=by
   rcases j with ⟨O,h⟩|⟨n,e,h⟩
   ·exact ⟨_,h,.inl ⟨O,rfl⟩⟩
   ·exact ⟨_,h,.inr ⟨n,e,rfl⟩⟩
  have Y:=Jfy (w:=w) Z hx xs.toArray off j
  have h2:=Jfy (w:=w) Z hx ys.toArray off j
  have e1:xs.toArray.extract off (off+i.size)=((xs.drop off).take ks.length).toArray:=by
   rw [←J,←Xd7]
  have e2:ys.toArray.extract off (off+i.size)=((ys.drop off).take ks.length).toArray:=by
   rw [←J,←Xd7]
  rw [e1] at Y;rw [e2] at h2
  simp only [Sem.run_bind,Y,Result.andThen_ok,h2,hs]
 ·have U:xs.toArray[off]? =some a:=by simpa using take_one ha
  have Q:ys.toArray[off]? =some b:=by simpa using take_one hb
  simp only [Sem.run_bind,Xdf hx _ _ _ U E I,Xdf hx _ _ _ Q E I,Result.andThen_ok,hs]
theorem Zcy {d:Nat} (ih: ∀t ks,ZgU P d t=some ks→Qer P d t ks): ∀(V:List Field) (at_:Nat) (ks:List LK),eqFields P (ZgU P d) V at_=some ks→
  ∀(E:Nat) (xs ys:List Value) (r:Bool) (w:World),d≤E→Zo ks (xs.drop at_) (ys.drop at_)=some r→(Op.eqFields E xs.toArray ys.toArray V).run P w= .ok r w
 | [],at_,ks,h=>by
  simp only [eqFields,Option.some.injEq] at h
  subst h
  intro E xs ys r w _ J
  cases hx:xs.drop at_ with
  | cons _ _=>simp [hx,Zo] at J
  | nil=>
   cases hy:ys.drop at_ with
   | cons _ _=>simp [hx,hy,Zo] at J
   | nil=>simp [hx,hy,Zo] at J;subst J;simp [Op.eqFields]
 | f::V,at_,ks,h=>by
  simp only [eqFields] at h
  split at h
  ·cases h
  rename_i U
  split at h
  ·rename_i k1 i h1 hi
   split at h
   ·rename_i Z
    obtain ⟨k2,h2,rfl⟩:=Option.map_eq_some_iff.1 h
    have I:=Zcy ih V (at_+k1.length) k2 h2
    have j:f.name≠ "_" :=λe=>U (.inl e)
    have O:f.offset=at_:=Classical.byContradiction λe=>U (.inr e)
    intro E xs ys r w hd J
    obtain ⟨r1,r2,Y,Q,rfl⟩:=Qbd J
    rw [List.drop_drop,List.drop_drop] at Q
    have hp:=Xgr (w:=w) (ih _ _ h1) hi Z hd xs ys at_ Y
    simp only [Op.eqFields,ne_eq,j,not_false_eq_true,if_true,O]
    have e: ∀(f':Bool→Sem Bool),((do let a ←part f.type xs.toArray at_;let b ←part f.type ys.toArray at_;let r ←Op.equalIn E f.type a b;f' r:Sem Bool))=((do let a ←part f.type xs.toArray at_;let b ←part f.type ys.toArray at_;Op.equalIn E f.type a b:Sem Bool) >>= f'):=by intro f';simp
    rw [e,Sem.run_bind,hp,Result.andThen_ok]
    cases r1 with
    | false=>simp
    | true=>simpa using I E xs ys r2 w hd Q
   ·cases h
  ·cases h
theorem Jej {d O:Nat} {e:TypeId} {ks:List LK} {i:TypeInfo} (V:Qer P d e ks) (Y:P.info? e=some i) (I:i.size=ks.length) (hd:d≤O) (xs ys:List Value):
  ∀(len s:Nat) (r:Bool) (w:World),Zo (List.replicate len ks).flatten (xs.drop (s*ks.length)) (ys.drop (s*ks.length))=some r→
  (forIn (m:=Sem) (List.range' s len) ((none,()):Option Bool×Unit) λj _=>do
   let a ←part e xs.toArray (j*i.size)
   let b ←part e ys.toArray (j*i.size)
   let q ←Op.equalIn O e a b
   if (!q)=true then pure (ForInStep.done (some false,())) else pure (ForInStep.yield (none,()))).run P w= .ok (if r then none else some false,()) w:=by
 intro len
 induction len with
 | zero=>
  intro s r w E
  simp only [List.replicate_zero,List.flatten_nil] at E
  cases hx:xs.drop (s*ks.length) with
  | cons _ _=>simp [hx,Zo] at E
  | nil=>
   cases hy:ys.drop (s*ks.length) with
   | cons _ _=>simp [hx,hy,Zo] at E
   | nil=>simp [hx,hy,Zo] at E;subst E;simp
 | succ len Z=>
  intro s r w E
  rw [List.replicate_succ,List.flatten_cons] at E
  obtain ⟨r1,r2,Q,J,rfl⟩:=Qbd E
  rw [List.drop_drop,List.drop_drop,←Nat.succ_mul] at J
  have hp:=Xgr (w:=w) V Y I hd xs ys (s*ks.length) Q
  have U:=Z (s+1) r2 w J
  rw [List.range'_succ,List.forIn_cons]
  rw [←I] at hp
  have e': ∀(f':Bool→Sem (ForInStep (Option Bool×Unit))),((do let a ←part e xs.toArray (s*i.size);let b ←part e ys.toArray (s*i.size);let r ←Op.equalIn O e a b;f' r:Sem _))=((do let a ←part e xs.toArray (s*i.size);let b ←part e ys.toArray (s*i.size);Op.equalIn O e a b:Sem Bool) >>= f'):=by intro f';simp
  rw [e',Sem.run_bind,Sem.run_bind,hp,Result.andThen_ok]
  cases r1 with
  | false=>simp
  | true=>simpa using U
theorem Jd3: ∀(d:Nat) (t:TypeId) (ks:List LK),ZgU P d t=some ks→Qer P d t ks
 | 0,t,ks,h=>by simp [ZgU] at h
 | d+1,t,ks,h=>by
  have Y:=Jd3 d
  intro J xs ys r w hd I
  obtain ⟨J,rfl⟩: ∃q,J=q+1:=⟨J-1,by omega⟩
  have one: ∀k,ks=[k]→ ∃x y,xs=[x]∧ys=[y]∧QcO k x y=some r:=by
   rintro k rfl
   cases xs with
   | nil=>simp [Zo] at I
   | cons x xs=>
    cases ys with
    | nil=>simp [Zo] at I
    | cons y ys=>
     cases j:QcO k x y with
     | none=>simp [Zo,j] at I
     | some p=>
      cases xs with
      | cons _ _=>simp [Zo,j] at I
      | nil=>cases ys with
       | cons _ _=>simp [Zo,j] at I
       | nil=>simp [Zo,j] at I;subst I;exact ⟨x,y,rfl,rfl,j⟩
  unfold ZgU at h
  split at h
  ·rename_i E
   simp only [Option.some.injEq] at h
   obtain ⟨x,y,rfl,rfl,j⟩:=one .b h.symm
   refine .inr ⟨⟨_,E,by simp,by simp⟩,x,y,rfl,rfl,?_⟩
   cases x<;>cases y<;>simp_all [QcO,Op.equalIn,run_underlying]
  ·rename_i k E
   simp only [Option.some.injEq] at h
   obtain ⟨x,y,rfl,rfl,j⟩:=one .i h.symm
   refine .inr ⟨⟨_,E,by simp,by simp⟩,x,y,rfl,rfl,?_⟩
   cases x<;>cases y<;>simp_all [QcO,Op.equalIn,run_underlying]
  ·rename_i E
   simp only [Option.some.injEq] at h
   obtain ⟨x,y,rfl,rfl,j⟩:=one .s h.symm
   refine .inr ⟨⟨_,E,by simp,by simp⟩,x,y,rfl,rfl,?_⟩
   cases x<;>cases y<;>simp_all [QcO,Op.equalIn,run_underlying]
  ·rename_i fs E
   split at h
   ·cases h
   rename_i Q
   refine .inl ⟨.inl ⟨fs,E⟩,?_⟩
   have hf:P.underlying t=some (.struct (P.fieldsOf t)):=by simp [Program.fieldsOf,E]
   have O:P.fieldsOf t=fs:=by simp [Program.fieldsOf,E]
   rw [run_equalIn_struct w J t _ _ hf (by simpa using Q),O]
   exact Zcy Y fs.toList 0 ks h J xs ys r w (by omega) (by simpa using I)
  ·rename_i len e E
   split at h
   ·rename_i k1 i Z V
    split at h
    ·rename_i U
     simp only [Option.some.injEq] at h
     subst h
     refine .inl ⟨.inr ⟨len,e,E⟩,?_⟩
     have:=Jej (Y _ _ Z) V U (show d≤J by omega) xs ys len 0 r w (by simpa using I)
     simp only [Op.equalIn,Sem.run_bind,run_underlying E,Result.andThen_ok,Zh V]
     rw [Std.Legacy.Range.forIn_eq_forIn_range']
     simp only [Std.Legacy.Range.size,Nat.sub_zero,Nat.add_sub_cancel,Nat.div_one]
     rw [this,Result.andThen_ok]
     cases r<;>simp
    ·cases h
   ·cases h
  ·cases h
end
section
variable {P:Program} {B:Nat} {w:World} {μ:Mu} {g:G} {n:Nat} {K:Cont}
theorem XaO (op:BinOp) (t:TypeId) (x y:Value) (b:Bool) (v:Value) (hx: ∀k n,x≠ .int k n) (E: ∀k n,x≠ .float k n) (hc: ∀k n m,x≠ .complex k n m) (hs: ∀s,x≠ .string s)
  (h:(Op.equal t x y).run P w= .ok b w) {J:Value→Prop} (j:Qev op b J): ∃v,(binOp op t x y).run P w= .ok v w∧(∃r,v= .bool r)∧J v:=by
 cases op<;>simp only [Qev] at j
 case eql=>
  refine ⟨_,?_,⟨_,rfl⟩,j⟩
  cases x<;>first|(exact absurd rfl (hx _ _))|(exact absurd rfl (E _ _))|(exact absurd rfl (hc _ _ _))|(exact absurd rfl (hs _))|simp [binOp,h]
 case neq=>
  refine ⟨_,?_,⟨_,rfl⟩,j⟩
  cases x<;>first|(exact absurd rfl (hx _ _))|(exact absurd rfl (E _ _))|(exact absurd rfl (hc _ _ _))|(exact absurd rfl (hs _))|simp [binOp,h]
theorem Qfl {op:BinOp} (t:TypeId) {k:IntKind} {a b:Int} {v:Value} (h:evS P (binOp op t (.int k a) (.int k b))=some v):(binOp op t (.int k a) (.int k b)).run P w= .ok v w:=Qgf h w
theorem Xca {t:TypeId} {x y:Value} {r:Bool} (h: ∀d,(Op.equalIn (d+1) t x y).run P w= .ok r w):(Op.equal t x y).run P w= .ok r w:=h 9999
theorem Xep {t:TypeId} {x y:Value} {r:Bool} (q:Nat) (h: ∀d,q≤d→(Op.equalIn d t x y).run P w= .ok r w) (hq:q≤Op.maxDepth:=by decide):(Op.equal t x y).run P w= .ok r w:=h _ hq
theorem Qgd {t:TypeId} (h:Jf9 P t= .bool):P.underlying t=some .bool:=by
 unfold Jf9 at h
 split at h<;>first|assumption|(cases h)|(split at h<;>cases h)
theorem Zg5 {t:TypeId} (h:Jf9 P t= .ptr): ∃e,P.underlying t=some (.pointer e):=by
 unfold Jf9 at h
 split at h<;>first|exact ⟨_, ‹_›⟩|(cases h)|(split at h<;>cases h)
theorem Zf3 {t:TypeId} (h:Jf9 P t= .slice): ∃e,P.underlying t=some (.slice e):=by
 unfold Jf9 at h
 split at h<;>first|exact ⟨_, ‹_›⟩|(cases h)|(split at h<;>cases h)
theorem Xg3 {t:TypeId} {ks:List LK} (h:Jf9 P t= .agg ks):ZgU P 6 t=some ks∧P.eqGuardType P.depth t=false:=by
 unfold Jf9 at h
 split at h
 all_goals first|(cases h;done)|skip
 all_goals
  split at h
  ·rename_i j E;cases h;exact ⟨j,E⟩
  ·cases h
theorem Zgd {t:TypeId} {X Y:Operand} {op:BinOp} {x y x' y':Value} (hx:VR μ x x') (Z:VR μ y y') {J:Value→Prop} (h:Jb (Jf9 P t) op x y J):
  ∃v,((do eqGuard op t X Y x' y';binOp op t x' y':Sem Value)).run P w= .ok v w∧VR μ v v∧J v:=by
 unfold Jb at h
 split at h
 ·
  split at h
  ·rename_i k a k' b
   cases hx;cases Z
   obtain ⟨Q,h⟩:=h
   have I: ∀op,eqGuard op t X Y (.int k a) (.int k' b)=pure ():=λop=>by cases op<;>rfl
   simp only [I,pure_bind]
   cases op<;>simp only [ZH] at h Q
   case shl=>
    refine ⟨_,?_,.int _ _,h.2⟩
    simp only [binOp,Op.shift]
    rw [if_neg (by omega)];rfl
   case shr=>
    refine ⟨_,?_,.int _ _,h.2⟩
    simp only [binOp,Op.shift]
    rw [if_neg (by omega)];rfl
   case quo=>subst Q;exact ⟨_,by simp [binOp,Op.intDiv,h.1],.int _ _,h.2⟩
   case rem=>subst Q;exact ⟨_,by simp [binOp,Op.intDiv,h.1],.int _ _,h.2⟩
   all_goals
    subst Q
    first
     |(refine ⟨_,Qfl _ ?_,.int _ _,h⟩;cases k<;>rfl)
     |(refine ⟨_,Qfl _ ?_,.bool _,h⟩;cases k<;>rfl)
  ·exact h.elim
 ·rename_i he
  have hu:=Qgd he
  split at h
  ·rename_i a b
   cases hx;cases Z
   have I: ∀op,eqGuard op t X Y (.bool a) (.bool b)=pure ():=λop=>by cases op<;>rfl
   simp only [I,pure_bind]
   obtain ⟨v,U,⟨r,rfl⟩,V⟩:=XaO (P:=P) (w:=w) op t (.bool a) (.bool b) _ undef (by simp) (by simp) (by simp) (by simp) (run_equal_bool w t a b hu) h
   exact ⟨_,U,.bool r,V⟩
  ·exact h.elim
 ·rename_i he
  obtain ⟨e,hu⟩:=Zg5 he
  split at h
  ·rename_i q
   cases hx
   have I: ∀op,eqGuard op t X Y (.pointer none) y'=pure ():=λop=>by cases op<;>rfl
   simp only [I,pure_bind]
   have hq: ∃q',y'= .pointer q'∧q'.isNone=q.isNone:=by cases Z<;>exact ⟨_,rfl,rfl⟩
   obtain ⟨q',rfl,ad⟩:=hq
   obtain ⟨v,U,⟨r,rfl⟩,V⟩:=XaO (P:=P) (w:=w) op t (.pointer none) (.pointer q') q.isNone undef (by simp) (by simp) (by simp) (by simp)
    (Xca λd=>by simp [Op.equalIn,run_underlying hu,ad]) h
   exact ⟨_,U,.bool r,V⟩
  ·rename_i a
   cases Z
   have hq: ∃E,x'= .pointer (some E):=by cases hx;exact ⟨_,rfl⟩
   obtain ⟨E,rfl⟩:=hq
   have I: ∀op,eqGuard op t X Y (.pointer (some E)) (.pointer none)=pure ():=λop=>by cases op<;>rfl
   simp only [I,pure_bind]
   obtain ⟨v,U,⟨r,rfl⟩,V⟩:=XaO (P:=P) (w:=w) op t (.pointer (some E)) (.pointer none) false undef (by simp) (by simp) (by simp) (by simp)
    (Xca λd=>by simp [Op.equalIn,run_underlying hu]) h
   exact ⟨_,U,.bool r,V⟩
  ·exact h.elim
 ·rename_i he
  obtain ⟨e,hu⟩:=Zf3 he
  split at h
  ·rename_i a n c _ _
   have hq: ∃n' c',y'= .slice none n' c':=by cases Z;exact ⟨_,_,rfl⟩
   obtain ⟨n1,c1,rfl⟩:=hq
   have hq: ∃E n' c',x'= .slice E n' c'∧E.isNone=a.isNone:=by cases hx<;>exact ⟨_,_,_,rfl,rfl⟩
   obtain ⟨E,n2,c2,rfl,hn⟩:=hq
   have I: ∀op,eqGuard op t X Y (.slice E n2 c2) (.slice none n1 c1)=pure ():=λop=>by cases op<;>rfl
   simp only [I,pure_bind]
   obtain ⟨v,U,⟨r,rfl⟩,V⟩:=XaO (P:=P) (w:=w) op t (.slice E n2 c2) (.slice none n1 c1) a.isNone undef (by simp) (by simp) (by simp) (by simp)
    (Xca λd=>by rw [←hn];cases E<;>simp [Op.equalIn,run_underlying hu]) h
   exact ⟨_,U,.bool r,V⟩
  ·exact h.elim
 ·rename_i ks he
  obtain ⟨hk,ac⟩:=Xg3 he
  split at h
  ·rename_i xs ys
   split at h
   ·rename_i r hr
    obtain ⟨O,rfl,ab⟩:=hx.agg_inv
    obtain ⟨j,rfl,aa⟩:=Z.agg_inv
    obtain ⟨e1,e2⟩:=JcZ hr ab aa
    have e1:O=xs:=by simpa using congrArg List.toArray e1
    have e2:j=ys:=by simpa using congrArg List.toArray e2
    subst e1;subst e2
    have ae:(Op.equal t (.agg O) (.agg j)).run P w= .ok r w:=by
     refine Xep 6 λd hd=> ?_
     rcases Jd3 6 t ks hk d O.toList j.toList r w hd hr with ⟨_,h⟩|⟨⟨x,hx,ah,ai⟩,_⟩
     ·simpa using h
     ·exfalso
      unfold Jf9 at he
      rw [hx] at he
      cases x<;>simp_all
    obtain ⟨v,U,⟨q,rfl⟩,V⟩:=XaO (P:=P) (w:=w) op t (.agg O) (.agg j) r undef (by simp) (by simp) (by simp) (by simp) ae h
    refine ⟨_,?_,.bool q,V⟩
    rw [Sem.run_bind,run_eqGuard_agg w op t X Y O j ac,Result.andThen_ok,U]
   ·exact h.elim
  ·exact h.elim
 ·split at h
  ·rename_i a b
   cases hx;cases Z
   have I: ∀op,eqGuard op t X Y (.string a) (.string b)=pure ():=λop=>by cases op<;>rfl
   simp only [I,pure_bind]
   have af:(a==b)=(a.toList==b.toList):=by
    rw [Bool.eq_iff_iff,MapKept.bytes_beq,ByteArray.toList_eq,ByteArray.toList_eq,beq_iff_eq]
    constructor
    ·rintro rfl;rfl
    ·intro h
     cases a;cases b
     simp only at h
     congr 1
     exact Array.ext' h
   rw [af] at h
   cases op<;>simp only [Qev] at h<;>first|exact h.elim|exact ⟨_,rfl,.bool _,h⟩
  ·exact h.elim
 ·exact h.elim
theorem Zg0 {op:UnOp} {x x':Value} (hx:VR μ x x') {J:Value→Prop} (h:kUn op x J): ∃v,(Op.unary op x').run P w= .ok v w∧VR μ v v∧J v:=by
 unfold kUn at h
 split at h
 ·cases hx;exact ⟨_,rfl,.bool _,h⟩
 ·cases hx;exact ⟨_,rfl,.int _ _,h⟩
 ·exact h.elim
theorem Xf3 {src dst:TypeId} {d:TypeDesc} {k:IntKind} (j:P.underlying src=some d) (E:P.underlying dst=some (.int k)) {x x':Value} (hx:VR μ x x') {J:Value→Prop} (h:XaQ k x J):
  ∃v,(convert src dst x').run P w= .ok v w∧VR μ v v∧J v:=by
 unfold XaQ at h
 split at h
 ·cases hx
  refine ⟨_,?_,.int _ _,h⟩
  simp [convert,run_underlying j,run_underlying E,Conv.intToInt]
 ·exact h.elim
theorem JdK {s:TypeId} {E:Array Field} {f:Nat} {j:Field} {i:TypeInfo} (Q:P.underlying s=some (.struct E)) (V:E[f]? =some j) (O:P.info? j.type=some i) (U:i.size≠0)
  {x x':Value} (hx:VR μ x x') {J:Value→Prop} (h:JaS x j.offset J): ∃v I,(Instr.fieldAt s x' f).run P w= .ok I w∧VR μ v I∧J v:=by
 obtain ⟨l,o,m,rfl,hm,rfl,h⟩:=Xdo hx h
 refine ⟨_,_,?_,VR.ptr (o+j.offset) hm,h⟩
 simp [Instr.fieldAt,run_underlying Q,V,Instr.sureAddr,fieldPlace,Zh O,U,QbV,Nat.add_assoc]
theorem QdR {t e:TypeId} {i:TypeInfo} (hu:P.underlying t=some (.slice e)) (hi:P.info? e=some i) {x x' y Z:Value} (hx:VR μ x x') (hy:VR μ y Z) {J:Value→Prop} (h:Jd x y i.size J):
  ∃v Y,(Instr.indexAt t x' Z).run P w= .ok Y w∧VR μ v Y∧J v:=by
 unfold Jd at h
 split at h
 ·rename_i l o len c k j
  cases hy
  obtain ⟨U,V,h⟩:=h
  have I: ∃m E,μ l=some m∧x'= .slice (some ⟨m.b,m.s+o,none⟩) len E∨len=0:=by
   cases hx with
   | @slx _ m _ _ _ o' hc hn hm O=>
    rcases O with rfl|rfl
    ·exact ⟨m,c,.inl ⟨hm,rfl⟩⟩
    ·exact ⟨m,0,.inr (by omega)⟩
   | @sll _ m _ q _ E o' hm V h2 h3 O=>
    rcases O with rfl|rfl
    ·exact ⟨m,E,.inl ⟨hm,rfl⟩⟩
    ·exact ⟨m,0,.inr (by omega)⟩
  obtain ⟨m,E,⟨hm,rfl⟩|U⟩:=I
  ·refine ⟨_,_,?_,VR.ptr (o+j.toNat*i.size) hm,h⟩
   have Q:j<(len:Int):=V
   simp [Instr.indexAt,asIntOf,run_underlying hu,U,Q,Zh hi,QbV,Nat.add_assoc]
  ·omega
 ·exact h.elim
end
section
variable {P:Program} {B:Nat} {w:World} {μ:Mu} {g:G} {n:Nat} {K:Cont}
theorem QdY {t e:TypeId} {len:Nat} {i:TypeInfo} (Y:P.underlying t=some (.array len e)) (U:P.info? e=some i) {x x' y I:Value} (hx:VR μ x x') (V:VR μ y I) {J:Value→Prop} (h:Ji x y len i.size J):
  ∃v E,(Instr.indexAt t x' I).run P w= .ok E w∧VR μ v E∧J v:=by
 unfold Ji at h
 split at h
 ·rename_i l o k j
  cases V
  cases hx with
  | @ptr _ m _ hm=>
   obtain ⟨O,Q,h⟩:=h
   refine ⟨_,_,?_,VR.ptr (o+j.toNat*i.size) hm,h⟩
   simp [Instr.indexAt,asIntOf,run_underlying Y,O,Q,Zh U,QbV,Nat.add_assoc,Instr.sureAddr]
 ·exact h.elim
theorem Zd8 {ty:TypeId} {cs:List Value} {ds:Array Value} (V:VRs μ cs ds.toList) {off:Nat} {J:Value→Prop} (h:QaJ P ty λa=>Xbf cs off a J):
  ∃v v',(part ty ds off).run P w= .ok v' w∧VR μ v v'∧J v:=by
 rcases Qbf h with ⟨i,U,O,j⟩|⟨i,U,_,O,j⟩
 ·obtain ⟨Y,j⟩:=j
  refine ⟨_,.agg (ds.extract off (off+i.size)),by simp [part,O,Zh U],?_,j⟩
  have:=((V.drop off).take i.size).agg
  have e:ds.extract off (off+i.size)=((ds.toList.drop off).take i.size).toArray:=by
   apply Array.ext'
   simp [List.extract_eq_take_drop]
  rw [e];exact this
 ·obtain ⟨v,Z,j⟩:=XbJ j
  obtain ⟨v',I,Q⟩:=V.get off v Z
  have E:ds[off]? =some v':=by simpa using I
  exact ⟨v,v',by simp [part,O,E],Q,j⟩
theorem Zfh {V:TypeId} {Q:Array Field} {f:Nat} {E:Field} (Z:P.underlying V=some (.struct Q)) (hf:Q[f]? =some E) {x x':Value} (hx:VR μ x x') {J:Value→Prop}
  (h:QaJ P E.type λa=>Jj x λcs=>Xbf cs E.offset a J): ∃v I,(Instr.field V x' f).run P w= .ok I w∧VR μ v I∧J v:=by
 have j: ∃cs,x= .agg cs:=by
  rcases Qbf h with ⟨i,_,_,U⟩|⟨i,_,_,_,U⟩<;>(obtain ⟨cs,rfl,_⟩:=QbP U;exact ⟨cs,rfl⟩)
 obtain ⟨cs,rfl⟩:=j
 obtain ⟨ds,rfl,O⟩:=hx.agg_inv
 obtain ⟨v,I,Y,h2,h3⟩:=Zd8 (P:=P) (w:=w) (ty:=E.type) (J:=J) O (off:=E.offset) (by simpa [Jj] using h)
 exact ⟨v,I,by simp [Instr.field,run_underlying Z,hf,asAgg,Y],h2,h3⟩
theorem Xe7 {xt e:TypeId} {len:Nat} {i:TypeInfo} (hu:P.underlying xt=some (.array len e)) (hi:P.info? e=some i) {x x' y y':Value} (hx:VR μ x x') (hy:VR μ y y') {J:Value→Prop}
  (h:QaJ P e λa=>JdY x y len i.size a J): ∃v Z,(Instr.index xt x' y').run P w= .ok Z w∧VR μ v Z∧J v:=by
 have Q: ∃cs k j,x= .agg cs∧y= .int k j∧0≤j∧j<len∧QaJ P e λa=>Xbf cs.toList (j.toNat*i.size) a J:=by
  have inv: ∀a,JdY x y len i.size a J→ ∃cs k j,x= .agg cs∧y= .int k j∧0≤j∧j<len∧Xbf cs.toList (j.toNat*i.size) a J:=by
   intro a O
   obtain ⟨cs,rfl,O⟩:=QbP O
   obtain ⟨k,j,rfl,h0,E,O⟩:=JbL O
   exact ⟨cs,k,j,rfl,rfl,h0,E,O⟩
  unfold QaJ QcL at h ⊢
  split at h
  ·split at h
   ·obtain ⟨cs,k,j,E,V,I,U,Y⟩:=inv _ h;exact ⟨cs,k,j,E,V,I,U,Y⟩
   ·exact h.elim
  ·split at h
   ·obtain ⟨cs,k,j,E,V,I,U,Y⟩:=inv _ h;exact ⟨cs,k,j,E,V,I,U,Y⟩
   ·exact h.elim
  ·split at h
   ·split at h
    ·obtain ⟨cs,k,j,E,V,I,U,Y⟩:=inv _ h;exact ⟨cs,k,j,E,V,I,U,by simp [*]⟩
    ·exact h.elim
   ·exact h.elim
  ·exact h.elim
 obtain ⟨cs,k,j,rfl,rfl,h0,E,h⟩:=Q
 obtain ⟨ds,rfl,aa⟩:=hx.agg_inv
 cases hy
 obtain ⟨v,Z,e1,e2,e3⟩:=Zd8 (P:=P) (w:=w) aa h
 exact ⟨v,Z,by simp [Instr.index,asIntOf,run_underlying hu,h0,E,Zh hi,e1],e2,e3⟩
theorem Zet {x x':Value} {i:Nat} (hx:VR μ x x') {J:Value→Prop} (h:Qc x i J): ∃v O,(Instr.extract x' i).run P w= .ok O w∧VR μ v O∧J v:=by
 unfold Qc at h
 split at h
 ·rename_i vs
  obtain ⟨v,I,U⟩:=XbJ h
  cases hx with
  | @tuple _ ys hs Q=>
   have E:i<vs.toList.length:=(List.getElem?_eq_some_iff.1 I).1
   have j:i<ys.size:=by simp at E;omega
   refine ⟨v,ys[i],by simp [Instr.extract,j],Q i v ys[i] (by simpa using I) (by simp [j]),U⟩
 ·exact h.elim
theorem XgA {j:Array TypeId} {ty t e:TypeId} (I:j[0]? =some t) (O:P.underlying t=some (.slice e)) {x x':Value} (r:Array Value) (hx:VR μ x x') {J:Value→Prop} (Q:r[0]? =some x') (h:Jak x J):
  ∃v,(Builtin.len_ j ty r).run P w= .ok v w∧VR μ v v∧J v:=by
 unfold Jak at h
 split at h
 ·rename_i a k c
  have: ∃E c',x'= .slice E k c':=by cases hx<;>exact ⟨_,_,rfl⟩
  obtain ⟨E,c',rfl⟩:=this
  refine ⟨_,?_,.int _ _,h⟩
  simp [Builtin.len_,I,Q,run_underlying O,goInt]
 ·exact h.elim
theorem J2 {x:Option Value} {d m:Nat} {J:Nat→Prop} (h:ZW x d m J):(x=none∧J d)∨(∃k i,x=some (.int k i)∧0≤i∧i≤m∧J i.toNat):=by
 unfold ZW at h
 split at h
 ·exact .inl ⟨rfl,h⟩
 ·obtain ⟨k,i,rfl,j,E,h⟩:=JbL h
  exact .inr ⟨k,i,rfl,j,E,h⟩
theorem Jgb {k:IntKind} {i:Int} {m:Nat} {code:BoundsCode} (j:0≤i) (E:i≤m):(Instr.sliceBound (.int k i) m code).run P w= .ok i.toNat w:=by
 simp [Instr.sliceBound,asIntOf,j,E]
inductive Jd1:Option Value→Option Value→Prop
 | none:Jd1 none none
 | some (k:IntKind) (i:Int):Jd1 (some (.int k i)) (some (.int k i))
theorem XgE {t:Env} {a:Act} {N:Nat} (he:EnvR μ N t a) (x:Option Operand) (j: ∀o,x=some o→Qd2 o=true) (h: ∀v,x.map (ev t)=some v→ ∃k i,v= .int k i):Jd1 (x.map (ev t)) (x.map a.eval):=by
 cases x with
 | none=>exact .none
 | some o=>
  obtain ⟨k,i,E⟩:=h _ rfl
  have:=he.ev (j o rfl)
  rw [E] at this
  simp only [Option.map_some,E]
  cases ha:a.eval o<;>rw [ha] at this<;>cases this
  exact .some k i
theorem Jaj {x:Option Value} {d m:Nat} {J:Nat→Prop} (h:ZW x d m J): ∀v,x=some v→ ∃k i,v= .int k i:=by
 rcases J2 h with ⟨rfl,_⟩|⟨k,i,rfl,_⟩
 ·intro v j;cases j
 ·intro v j;cases j;exact ⟨k,i,rfl⟩
theorem Qaj {len cap m h l:Nat} {J I j:Option Value}
  (hm:(j=none∧m=cap)∨(∃k i,j=some (.int k i)∧0≤i∧i≤cap∧m=i.toNat))
  (Q:(I=none∧j=none∧h=len)∨(∃k i,I=some (.int k i)∧0≤i∧i≤m∧h=i.toNat))
  (O:(J=none∧l=0)∨(∃k i,J=some (.int k i)∧0≤i∧i≤h∧l=i.toNat)):
  (Instr.sliceBounds true len cap J I j).run P w= .ok (l,h,m) w:=by
 rcases hm with ⟨rfl,rfl⟩|⟨k1,Z,rfl,a1,Y,rfl⟩<;>rcases Q with ⟨rfl,E,rfl⟩|⟨k2,V,rfl,a2,U,rfl⟩<;>rcases O with ⟨rfl,rfl⟩|⟨k3,i3,rfl,a3,b3,rfl⟩<;>
  first
   |(exfalso;simp at E;done)
   | simp only [Instr.sliceBounds,Sem.run_bind,Sem.run_pure,Result.andThen_ok,Jgb, *]
theorem Ze9 {ty e:TypeId} {i:TypeInfo} (hu:P.underlying ty=some (.slice e)) (hi:P.info? e=some i) {x x':Value} (hx:VR μ x x') {lo ac mx Y V U:Option Value}
  (aa:(∀v,lo=some v→ ∃k i,v= .int k i)→Jd1 lo Y) (aj:(∀v,ac=some v→ ∃k i,v= .int k i)→Jd1 ac V) (ai:(∀v,mx=some v→ ∃k i,v= .int k i)→Jd1 mx U)
  (ab:mx≠none→ac≠none) {J:Value→Prop}
  (h:Xx x lo ac mx i.size J): ∃v v',(Instr.sliceAt ty x' Y V U).run P w= .ok v' w∧VR μ v v'∧J v:=by
 have run: ∀(a:Option Addr) (len cap l h m:Nat),(Instr.sliceBounds true len cap Y V U).run P w= .ok (l,h,m) w→
   (Instr.sliceAt ty (.slice a len cap) Y V U).run P w= .ok (.slice (if m=l then a else a.map (·.add (l*i.size))) (h-l) (m-l)) w:=by
  intro a len cap l h m hb
  simp [Instr.sliceAt,Instr.slice,run_underlying hu,hb,Zh hi]
 unfold Xx at h
 split at h
 ·rename_i a len c
  split at h
  ·rename_i hc
   have hm:=J2 h
   have O:=ai (Jaj h)
   have hh: ∀m,(ZW ac len m λh=>ZW lo 0 h λl=>J (.slice (if m=l then a else a.map (·.add (l*i.size))) (h-l) (m-l)))→
     (mx=none→len≤m)→(Instr.sliceBounds true len c none none none).run P w=(Instr.sliceBounds true len c none none none).run P w→
     ((U=none∧m=c)∨(∃k i,U=some (.int k i)∧0≤i∧i≤c∧m=i.toNat))→
     ∃l h,(Instr.sliceBounds true len c Y V U).run P w= .ok (l,h,m) w∧l≤h∧h≤m∧J (.slice (if m=l then a else a.map (·.add (l*i.size))) (h-l) (m-l)):=by
    intro m hk ah _ ae
    have I:=aj (Jaj hk)
    rcases J2 hk with ⟨rfl,hq⟩|⟨k2,i2,rfl,a2,b2,hq⟩
    ·have E:=aa (Jaj hq)
     have af:mx=none:=Classical.byContradiction λe=>ab e rfl
     cases I
     rcases J2 hq with ⟨rfl,Q⟩|⟨k3,i3,rfl,a3,b3,Q⟩
     ·cases E
      refine ⟨0,len,Qaj ae (.inl ⟨rfl,?_,rfl⟩) (.inl ⟨rfl,rfl⟩),Nat.zero_le _,ah af,Q⟩
      subst af;cases O;rfl
     ·cases E
      refine ⟨_,len,Qaj ae (.inl ⟨rfl,?_,rfl⟩) (.inr ⟨k3,i3,rfl,a3,b3,rfl⟩),by omega,ah af,Q⟩
      subst af;cases O;rfl
    ·have E:=aa (Jaj hq)
     cases I
     rcases J2 hq with ⟨rfl,Q⟩|⟨k3,i3,rfl,a3,b3,Q⟩
     ·cases E
      exact ⟨0,_,Qaj ae (.inr ⟨k2,i2,rfl,a2,b2,rfl⟩) (.inl ⟨rfl,rfl⟩),Nat.zero_le _,by omega,Q⟩
     ·cases E
      exact ⟨_,_,Qaj ae (.inr ⟨k2,i2,rfl,a2,b2,rfl⟩) (.inr ⟨k3,i3,rfl,a3,b3,rfl⟩),by omega,by omega,Q⟩
   have al:len≤c:=by cases hx<;>first|omega|(simp only [LC] at hc;omega)
   have ad: ∃m l h,(Instr.sliceBounds true len c Y V U).run P w= .ok (l,h,m) w∧l≤h∧h≤m∧m≤c∧J (.slice (if m=l then a else a.map (·.add (l*i.size))) (h-l) (m-l)):=by
    rcases hm with ⟨rfl,hm⟩|⟨k1,i1,rfl,a1,b1,hm⟩
    ·cases O
     obtain ⟨l,h',e1,e2,e3,e4⟩:=hh c hm (λ_=>al) rfl (.inl ⟨rfl,rfl⟩)
     exact ⟨c,l,h',e1,e2,e3,Nat.le_refl _,e4⟩
    ·cases O
     obtain ⟨l,h',e1,e2,e3,e4⟩:=hh _ hm (λe=>by cases e) rfl (.inr ⟨k1,i1,rfl,a1,b1,rfl⟩)
     exact ⟨_,l,h',e1,e2,e3,by omega,e4⟩
   obtain ⟨m,l,h',e1,e2,e3,e4,e5⟩:=ad
   cases hx with
   | nilslice=>
    refine ⟨_,_,run none 0 0 l h' m e1,?_,e5⟩
    have:m=0:=by omega
    subst this
    have:h'-l=0:=by omega
    rw [this,Nat.zero_sub]
    split<;>exact .nilslice
   | @slx l0 p o _ _ o' _ hn hp ho=>
    refine ⟨_,_,run _ _ _ l h' m e1,?_,e5⟩
    by_cases hml:m=l
    ·simp only [hml,if_true]
     exact .slx o _ _ _ (by simp [LC]) (by omega) hp (.inr (by omega))
    ·rcases ho with rfl|rfl
     ·simp only [hml,if_false,Option.map_some,QbV]
      exact .slx _ _ _ _ (by omega) (by omega) hp (.inl (by rw [Nat.add_assoc]))
     ·omega
   | sll=>simp only [LC] at hc;omega
  ·rename_i hc
   obtain ⟨rfl,h⟩:=h
   have an: ∃l0 p o j Z o',a=some ⟨l0,o,none⟩∧x'= .slice (some ⟨p.b,o',none⟩) len Z∧μ l0=some p∧p.z=i.size∧o=j*p.z∧j+Z=p.K∧len≤Z∧(o'=p.s+o∨Z=0):=by
    generalize hcc:LC+i.size=cc at hx hc
    cases hx with
    | nilslice=>simp only [LC] at hcc;omega
    | slx=>omega
    | @sll l0 p o j _ Z o' hp h1 h2 h3 h4=>exact ⟨l0,p,o,j,Z,o',rfl,rfl,hp,by omega,h1,h2,h3,h4⟩
   obtain ⟨l0,p,o,j,Z,o',rfl,rfl,hp,ao,h1,h2,h3,h4⟩:=an
   split at h
   ·cases ai (by intro v hv;cases hv)
    have I:=aj (Jaj h)
    have ad: ∃l h,(Instr.sliceBounds true len Z Y V none).run P w= .ok (l,h,Z) w∧l≤h∧h≤len∧J (.slice (some (Addr.add ⟨l0,o,none⟩ (l*i.size))) (h-l) (LC+i.size)):=by
     rcases J2 h with ⟨rfl,hq⟩|⟨k2,i2,rfl,a2,b2,hq⟩
     ·have E:=aa (Jaj hq)
      cases I
      rcases J2 hq with ⟨rfl,Q⟩|⟨k3,i3,rfl,a3,b3,Q⟩
      ·cases E
       exact ⟨0,len,Qaj (.inl ⟨rfl,rfl⟩) (.inl ⟨rfl,rfl,rfl⟩) (.inl ⟨rfl,rfl⟩),Nat.zero_le _,Nat.le_refl _,Q⟩
      ·cases E
       exact ⟨_,len,Qaj (.inl ⟨rfl,rfl⟩) (.inl ⟨rfl,rfl,rfl⟩) (.inr ⟨k3,i3,rfl,a3,b3,rfl⟩),by omega,Nat.le_refl _,Q⟩
     ·have E:=aa (Jaj hq)
      cases I
      rcases J2 hq with ⟨rfl,Q⟩|⟨k3,i3,rfl,a3,b3,Q⟩
      ·cases E
       exact ⟨0,_,Qaj (.inl ⟨rfl,rfl⟩) (.inr ⟨k2,i2,rfl,a2,by omega,rfl⟩) (.inl ⟨rfl,rfl⟩),Nat.zero_le _,by omega,Q⟩
      ·cases E
       exact ⟨_,_,Qaj (.inl ⟨rfl,rfl⟩) (.inr ⟨k2,i2,rfl,a2,by omega,rfl⟩) (.inr ⟨k3,i3,rfl,a3,b3,rfl⟩),by omega,by omega,Q⟩
    obtain ⟨l,h',e1,e2,e3,e5⟩:=ad
    refine ⟨_,_,run _ _ _ l h' Z e1,?_,e5⟩
    rw [←ao,QbV]
    by_cases hml:Z=l
    ·simp only [hml,if_true]
     exact .sll _ (j+l) _ _ _ hp (by rw [h1,Nat.add_mul]) (by omega) (by omega) (.inr (by omega))
    ·simp only [hml,if_false,Option.map_some,QbV]
     exact .sll _ (j+l) _ _ _ hp (by rw [h1,Nat.add_mul]) (by omega) (by omega) (.inl (by rcases h4 with rfl|rfl<;>omega))
   ·rename_i aq
    have O:=ai (Jaj h)
    rcases J2 h with ⟨ak,_⟩|⟨k1,i1,am,a1,b1,ap,h9⟩
    ·cases ak
    cases am
    cases O
    have I:=aj (Jaj h9)
    have ad: ∃l h,(Instr.sliceBounds true len Z Y V (some (.int k1 i1))).run P w= .ok (l,h,i1.toNat) w∧l≤h∧h≤i1.toNat∧J (.slice (some (Addr.add ⟨l0,o,none⟩ (l*i.size))) (h-l) (i1.toNat-l)):=by
     rcases J2 h9 with ⟨rfl,hq⟩|⟨k2,i2,rfl,a2,b2,hq⟩
     ·exact absurd rfl (ab (by simp))
     ·have E:=aa (Jaj hq)
      cases I
      rcases J2 hq with ⟨rfl,Q⟩|⟨k3,i3,rfl,a3,b3,Q⟩
      ·cases E
       exact ⟨0,_,Qaj (.inr ⟨k1,i1,rfl,a1,by omega,rfl⟩) (.inr ⟨k2,i2,rfl,a2,by omega,rfl⟩) (.inl ⟨rfl,rfl⟩),Nat.zero_le _,by omega,Q⟩
      ·cases E
       exact ⟨_,_,Qaj (.inr ⟨k1,i1,rfl,a1,by omega,rfl⟩) (.inr ⟨k2,i2,rfl,a2,by omega,rfl⟩) (.inr ⟨k3,i3,rfl,a3,b3,rfl⟩),by omega,by omega,Q⟩
    obtain ⟨l,h',e1,e2,e3,e5⟩:=ad
    refine ⟨_,_,run _ _ _ l h' _ e1,?_,e5⟩
    rw [QbV]
    by_cases hml:i1.toNat=l
    ·simp only [hml,if_true]
     exact .slx _ _ _ _ (by simp [LC]) (by omega) hp (.inr (by omega))
    ·simp only [hml,if_false,Option.map_some,QbV]
     exact .slx _ _ _ _ (by omega) (by omega) hp (.inl (by rcases h4 with rfl|rfl<;>first|rw [Nat.add_assoc]|omega))
 ·exact h.elim
end
section
variable {P:Program} {B:Nat} {w:World} {μ:Mu} {g:G} {n:Nat} {K:Cont}
theorem JbS (hs:Sim μ g n w B) {x x':Value} {k z:Nat} (hx:VR μ x x') (V:k≤lenOf x) {J:List Value→Prop} (h:Xar g x k z J):
  ∃new vs,(Builtin.firstCells z k x').run P w= .ok (List.toArray vs) w∧VRs μ new vs∧J new∧new.length=k*z:=by
 unfold Xar at h
 split at h
 ·cases hx
  exact ⟨[],[],rfl,.nil,h.2,by simp [h.1]⟩
 ·rename_i l o len c
  simp only [lenOf] at V
  split at h
  ·rename_i j
   have: ∃Q n' c',x'= .slice (some Q) n' c':=by cases hx<;>exact ⟨_,_,_,rfl⟩
   obtain ⟨Q,n',c',rfl⟩:=this
   refine ⟨[],[],?_,.nil,h,by simp [j]⟩
   simp [Builtin.firstCells,j,loadCells,loadCellsFrom]
  ·rename_i j
   have aa:0<k:=by
    rcases Nat.eq_zero_or_pos k with rfl|h
    ·simp at j
    ·exact h
   have: ∃m c',μ l=some m∧x'= .slice (some ⟨m.b,m.s+o,none⟩) len c':=by
    cases hx with
    | @slx _ m _ _ _ o' hc hn hm I=>
     rcases I with rfl|rfl
     ·exact ⟨m,c,hm,rfl⟩
     ·omega
    | @sll _ m _ q _ c' o' hm O U h3 I=>
     rcases I with rfl|rfl
     ·exact ⟨m,c',hm,rfl⟩
     ·omega
   obtain ⟨m,c',hm,rfl⟩:=this
   obtain ⟨cs,bk,Z,E,Y⟩:=ZX h
   obtain ⟨vs,O,U⟩:=Zcm (P:=P) hs Z hm E
   exact ⟨_,vs,by simpa [Builtin.firstCells] using O,U,Y,by simp;omega⟩
 ·exact h.elim
theorem Qa8 {E:Array TypeId} {ty Z tX e:TypeId} {e':TypeId} {i:TypeInfo} (V:E[0]? =some Z) (Y:E[1]? =some tX) (hu:P.underlying Z=some (.slice e)) (Q:P.underlying tX=some (.slice e'))
  (hi:P.info? e=some i) {base:Option Addr} {len c k:Nat} {x':Value} (U: ∀w:World,(Builtin.lenOf x').run P w= .ok k w) {vs:List Value} (hf:(Builtin.firstCells i.size k x').run P w= .ok vs.toArray w) {w':World}
  (j:len+k≤c) (O:match base with|some a=>(storeCells (a.add (len*i.size)) vs).run P w= .ok () w'|none=>w'=w) (r:Array Value) (J:r[0]? =some (.slice base len c)) (I:r[1]? =some x'):
  (Builtin.append_ E ty r).run P w= .ok (.slice base (len+k) c) w':=by
 cases base with
 | none=>
  subst O
  simp [Builtin.append_,V,Y,J,I,run_underlying hu,run_underlying Q,Zh hi,U,j,hf]
 | some a=>
  simp [Builtin.append_,V,Y,J,I,run_underlying hu,run_underlying Q,Zh hi,U,j,hf,O]
theorem Jcx {j:Array TypeId} {ty Y tX e:TypeId} {e':TypeId} {i:TypeInfo} {z:Value} (h0:j[0]? =some Y) (h1:j[1]? =some tX) (hu:P.underlying Y=some (.slice e)) (U:P.underlying tX=some (.slice e'))
  (Z:P.info? e=some i) (hz:i.zero=some z) {base:Option Addr} {len c k:Nat} {x':Value} (V: ∀w:World,(Builtin.lenOf x').run P w= .ok k w) {os vs:List Value}
  (ho:(Builtin.firstCells i.size len (.slice base len c)).run P w.drew= .ok os.toArray w.drew) (hf:(Builtin.firstCells i.size k x').run P w.drew= .ok vs.toArray w.drew)
  (E: ¬len+k≤c) (aa:len+k<140737488355328) (ac:(len+k)*i.bytes≤140737488355328) (r:Array Value) (Q:r[0]? =some (.slice base len c)) (O:r[1]? =some x'):
  (Builtin.append_ j ty r).run P w= .ok (.slice (some ⟨w.heap.size,0,none⟩) (len+k) (grownCap w (len+k) c e))
   (w.drew.alloc (.cells (os++vs++(Builtin.zeroCells z.cells (grownCap w (len+k) c e-(len+k))).toList).toArray e)):=by
 have J: ¬(9223372036854775807<((len:Int)+(k:Int))):=by omega
 have ab:=growslice_fits (need:=len+k) (old:=c) (bytes:=i.bytes) (by omega) (by omega)
 have I: ¬(281474976710656<Builtin.nextslicecap (len+k) c*i.bytes):=by omega
 simp [Builtin.append_,h0,h1,Q,O,run_underlying hu,run_underlying U,Zh Z,Zdq Z,V,E,hf,ho,J,I,zeroValue,hz,Question.forced,newRow,grownCap]
 congr 2
 apply Array.ext'
 simp
theorem XdP {x:Value} {k z:Nat} {J:List Value→Prop} (h:Xar g x k z J): ∃new,J new∧Xar g x k z (· =new):=by
 unfold Xar at h
 split at h
 ·exact ⟨[],h.2,h.1,rfl⟩
 ·rename_i l o _ _
  split at h
  ·rename_i j;exact ⟨[],h,by simp [Xar,j]⟩
  ·rename_i j
   obtain ⟨cs,bk,I,E,O⟩:=ZX h
   refine ⟨_,O,?_⟩
   simp only [Xar,j,if_false,Ql,ZaP,I]
   exact ⟨E,trivial⟩
 ·exact h.elim
theorem Zf6 {v:Value} (h:isCell v=true):v.oneCell'=true:=by cases v<;>simp_all [isCell,Value.oneCell']
theorem VRs.cell {xs ys:List Value} (h:VRs μ xs ys) (hc: ∀v∈xs,isCell v=true): ∀v∈ys,isCell v=true:=by
 induction h with
 | nil=>intro v j;simp at j
 | cons I _ E=>
  intro v j
  rcases List.mem_cons.1 j with rfl|j
  ·rw [I.isCell];exact hc _ (by simp)
  ·exact E (λv j=>hc v (by simp [j])) v j
theorem Zgo {x x':Value} (hx:VR μ x x') {a:Option Addr} {k c:Nat} (h:x= .slice a k c) (w:World):(Builtin.lenOf x').run P w= .ok k w:=by
 subst h;cases hx<;>rfl
theorem Xel (hs:Sim μ g n w B) {cs ds:List Value} {z:Value} {i:TypeInfo} (I:z.cells.size=i.size) (O:VRs μ cs ds) {need c:Nat} (e:TypeId) (Q:cs.length=need*i.size)
  (U:g n=none→K (.slice (some ⟨n,0,none⟩) need (LC+i.size)) (upd g n (some (.cells cs (.loose i.size)))) (n+1)):
  Fin B w μ K (.slice (some ⟨w.heap.size,0,none⟩) need (grownCap w need c e)) (w.drew.alloc (.cells (ds++(Builtin.zeroCells z.cells (grownCap w need c e-need)).toList).toArray e)):=by
 have j:=grownCap_ge w need c e
 generalize grownCap w need c e=cap at j ⊢
 have J:((Builtin.zeroCells z.cells (cap-need)).toList).length=(cap-need)*i.size:=by simp [Builtin.zeroCells,I]
 have hd:(ds++(Builtin.zeroCells z.cells (cap-need)).toList).length=cap*i.size:=by
  rw [List.length_append,←O.length,Q,J,←Nat.add_mul];congr 1;omega
 have E:=hs.drew.alloc O (es:=(Builtin.zeroCells z.cells (cap-need)).toList) e cap i.size (.loose i.size) ⟨rfl,by rw [hd];exact Nat.le_refl _,by rw [Q];exact Nat.mul_le_mul_right _ j⟩
 refine ⟨_,_,n+1,_,U (hs.gdom n (Nat.le_refl n)),?_,E,hs.newExt _,((Below.refl B w).drew).alloc hs.base _⟩
 exact .sll (m:=⟨w.drew.heap.size,0,cap,i.size⟩) 0 0 need cap 0 (XbF _ _ _) (by simp) (by simp) j (.inl rfl)
theorem Sub.drop (g:G) (l:Nat):Sub (Abs.upd g l none) g:=λi=>by
 by_cases h:i=l
 ·subst h;exact .inl (by simp [Abs.upd])
 ·exact .inr (by simp [Abs.upd,h])
theorem Sim.apart (h:Sim μ g n w B) {l E:Nat} {b O:Blk} {m J:Pl} (Z:g l=some b) (hm:μ l=some m) (Y:b.rw=true) (j:g E=some O) (I:μ E=some J) (Q:E≠l):J.b≠m.b:=by
 intro V
 cases hrb:O.rw with
 | true=>exact Q (h.inj E l O b J m j Z hrb Y I hm V)
 | false=>
  have h1:=(h.live l b m Z hm).rw_ge Y
  cases O with
  | map es=>simp [Blk.rw] at hrb
  | iter l c sn=>simp [Blk.rw] at hrb
  | cells aa k'=>
   cases k' with
   | ro=>obtain ⟨_,_,_,_,_,U⟩:=h.live E _ J j I;simp at U;omega
   | exact=>simp [Blk.rw] at hrb
   | loose z=>simp [Blk.rw] at hrb
theorem ZeD {ap:Array TypeId} {ty tS tX e e':TypeId} {i:TypeInfo} {z:Value} (h0:ap[0]? =some tS) (h1:ap[1]? =some tX) (hu:P.underlying tS=some (.slice e)) (O:P.underlying tX=some (.slice e'))
  (hi:P.info? e=some i) (hz:i.zero=some z) (aB:z.cells.size=i.size) (hs:Sim μ g n w B) {s s' x x':Value} (ah:VR μ s s') (ar:VR μ x x') (r:Array Value) (J:r[0]? =some s') (Q:r[1]? =some x')
  (h:Zs s x i.size i.bytes g n K): ∃v w',(Builtin.append_ ap ty r).run P w= .ok v w'∧Fin B w μ K v w':=by
 unfold Zs at h
 split at h
 ·rename_i base len c ax k cx
  obtain ⟨aY,aA,av,h⟩:=h
  obtain ⟨new,⟨aq,h⟩,aw⟩:=XdP h
  obtain ⟨_,vs,hf,V,rfl,Y⟩:=JbS (P:=P) hs ar (by simp [lenOf]) aw
  obtain ⟨aD,bc,aE,aj,aV,_⟩:=JbS (P:=P) hs.drew ar (by simp [lenOf]) aw
  subst aV
  have U:=λw=>Zgo (P:=P) ar (rfl:Value.slice ax k cx=_) w
  split at h
  ·rename_i hc
   have aG:s'= .slice none 0 0∧base=none∧len=0∧c=0∨ ∃l o o' m,base=some ⟨l,o,none⟩∧s'= .slice (some o') len c∧μ l=some m∧(o'=⟨m.b,m.s+o,none⟩∨c=0)∧len≤c:=by
    cases ah with
    | nilslice=>exact .inl ⟨rfl,rfl,rfl,rfl⟩
    | @slx l m o _ _ o' _ hn hm ho=>exact .inr ⟨l,o,o',m,rfl,rfl,hm,ho,hn⟩
    | sll=>simp only [LC] at hc;omega
   split at h
   ·rename_i E
    rcases aG with ⟨rfl,rfl,rfl,rfl⟩|⟨l,o,o',m,rfl,rfl,hm,ho,hn⟩
    ·obtain ⟨ak,hk⟩:=h
     have:k=0:=by omega
     subst this
     exact ⟨_,_,Qa8 h0 h1 hu O hi U hf E rfl r J Q,Xl hs .nilslice hk⟩
    ·simp only at h
     split at h
     ·rename_i ak
      subst ak
      cases V
      refine ⟨_,_,Qa8 h0 h1 hu O hi U hf E (w':=w) (by simp [storeCells]) r J Q,Xl hs ?_ h⟩
      exact .slx o _ _ _ hc E hm ho
     ·rename_i ae
      have bb:0<k:=by
       rcases Nat.eq_zero_or_pos k with rfl|h
       ·exact absurd (List.eq_nil_of_length_eq_zero (by simpa using Y)) ae
       ·exact h
      rcases ho with rfl|rfl
      ·obtain ⟨w',g',an,hk,aO,hb⟩:=Jcl (P:=P) hs hm V h
       refine ⟨_,w',Qa8 h0 h1 hu O hi U hf E (w':=w') ?_ r J Q,_,g',n,μ,hk,?_,aO,Ext.refl μ,hb⟩
       ·simpa [QbV,Nat.add_assoc] using an
       ·exact .slx o _ _ _ hc E hm (.inl rfl)
      ·omega
   ·rename_i E
    obtain ⟨old,hk,aC⟩:=XdP h
    obtain ⟨_,os,ac,ad,rfl,aL⟩:=JbS (P:=P) hs.drew ah (by simp [lenOf]) aC
    have au: ∃Z,s'= .slice Z len c:=by rcases aG with ⟨rfl,rfl,rfl,rfl⟩|⟨l,o,o',m,rfl,rfl,hm,ho,hn⟩<;>exact ⟨_,rfl⟩
    obtain ⟨Z,rfl⟩:=au
    refine ⟨_,_,Jcx h0 h1 hu O hi hz U ac aE E av aA r J Q,?_⟩
    exact Xel hs aB (ad.append aj) e (by rw [List.length_append,aL,Y,Nat.add_mul]) hk
  ·rename_i hc
   split at h
   ·rename_i l o _
    obtain ⟨rfl,aI⟩:=h
    obtain ⟨cs,bk,hg,aa,aK,hk⟩:=ZX aI
    cases bk with
    | ro=>exact aa.elim
    | exact=>exact aa.elim
    | loose z'=>
    have aa:z'=i.size:=aa
    subst aa
    have aU: ∃m j I o',s'= .slice (some ⟨m.b,o',none⟩) len I∧μ l=some m∧m.z=i.size∧o=j*m.z∧j+I=m.K∧len≤I∧(o'=m.s+o∨I=0):=by
     generalize hcc:LC+i.size=cc at ah hc
     cases ah with
     | slx=>omega
     | @sll _ m _ j _ I o' hp h1 h2 h3 h4=>exact ⟨m,j,I,o',rfl,hp,by omega,h1,h2,h3,h4⟩
    obtain ⟨m,j,I,o',rfl,hm,aM,aS,aQ,aZ,ho⟩:=aU
    have al:=hs.live l _ m hg hm
    obtain ⟨cells,elem,fz,hw,az,hB,aP,_,hK,aX⟩:=al
    subst aP
    have ab:m.s+o+(len+(I-len))*i.size≤cells.size:=by
     have e1:m.K*i.size=j*i.size+I*i.size:=by rw [←aQ,Nat.add_mul]
     rw [show len+(I-len)=I by omega]
     rw [aS,aM];omega
    have aH:vs.length=k*i.size:=by rw [←V.length,Y]
    have aW:(cs.drop o).take (len*i.size)=(cs.drop o).take (len*i.size):=rfl
    have holdlen:((cs.drop o).take (len*i.size)).length=len*i.size:=by simp;omega
    by_cases E:len+k≤I
    ·
     have am:m.s+o+len*i.size+vs.length≤cells.size:=by
      have:(len+k)*i.size≤I*i.size:=Nat.mul_le_mul_right _ E
      rw [show len+(I-len)=I by omega] at ab
      rw [Nat.add_mul] at this
      omega
     let cells':Array Value:=(cells.toList.take (m.s+o+len*i.size)++vs++cells.toList.drop (m.s+o+len*i.size+vs.length)).toArray
     have aR: ∀v∈vs,v.oneCell'=true:=λv hv=>Zf6 (V.cell aq v hv)
     have aF:=run_storeCells_at P m.b (m.s+o+len*i.size) elem vs 0 cells w hw (by simpa using am) aR
     have an:(storeCells ((⟨m.b,o',none⟩:Addr).add (len*i.size)) vs).run P w= .ok () (w.setRow m.b cells'):=by
      rcases ho with rfl|rfl
      ·simpa [QbV,cells'] using aF
      ·have:vs=[]:=List.eq_nil_of_length_eq_zero (by rw [aH,show k=0 by omega];simp)
       subst this
       have e:cells'=cells:=by simp [cells']
       rw [e,setRow_self w m.b cells elem (0,0) hw]
       simp [storeCells]
     refine ⟨_,_,Qa8 h0 h1 hu O hi U hf E (w':=w.setRow m.b cells') an r J Q,?_⟩
     have aT:(Blk.cells cs (.loose i.size)).rw=true:=rfl
     have ay:=(hs.sub (Sub.drop g l)).place (w':=w.setRow m.b cells') (m:=⟨m.b,m.s+o,I,i.size⟩) (b:= .cells ((cs.drop o).take (len*i.size)++aD) (.loose i.size))
      (by simp [World.setRow];exact hs.base)
      (by
       intro l' b' m' e f
       have ae:l'≠l:=λhe=>by subst he;simp [upd] at e
       rw [Zd _ _ ae] at e
       have:=hs.apart hg hm aT e f ae
       exact ⟨this,setRow_other w m.b m'.b cells' this⟩)
      (by
       refine ⟨cells',elem,(0,0),setRow_heap w m.b cells cells' elem (0,0) hw,?_,hB,rfl,rfl,?_,?_⟩
       ·intro q v hq
        by_cases hql:q<len*i.size
        ·rw [List.getElem?_append_left (by rw [holdlen];exact hql)] at hq
         simp [hql,List.getElem?_drop] at hq
         obtain ⟨v',af,ao⟩:=az (o+q) v hq
         refine ⟨v',?_,ao.ext ((hs.sub (Sub.drop g l)).newExt _)⟩
         have:m.s+o+q<cells.size:=by omega
         simp only [cells',List.getElem?_toArray,List.append_assoc]
         rw [List.getElem?_append_left (by simp;omega)]
         simp [show m.s+o+q<m.s+o+len*i.size by omega]
         simpa [Nat.add_assoc] using af
        ·rw [List.getElem?_append_right (by rw [holdlen];omega),holdlen] at hq
         obtain ⟨v',af,ao⟩:=V.get _ v hq
         refine ⟨v',?_,ao.ext ((hs.sub (Sub.drop g l)).newExt _)⟩
         have ba:q-len*i.size<vs.length:=(List.getElem?_eq_some_iff.1 af).1
         have ai:(cells.toList.take (m.s+o+len*i.size)).length=m.s+o+len*i.size:=by simp;omega
         simp only [cells',List.getElem?_toArray,List.append_assoc]
         rw [List.getElem?_append_right (by rw [ai];omega),ai,List.getElem?_append_left (by omega)]
         rw [←af];congr 1;omega
       ·have:cells'.size=cells.size:=by simp [cells'];omega
        rw [this]
        rw [show len+(I-len)=I by omega] at ab
        exact ab
       ·rw [List.length_append,holdlen,Y,←Nat.add_mul]
        exact Nat.mul_le_mul_right _ E)
     refine ⟨_,_,n+1,_,hk (hs.gdom n (Nat.le_refl n)),?_,ay,(hs.sub (Sub.drop g l)).newExt _,?_⟩
     ·exact .sll (m:=⟨m.b,m.s+o,I,i.size⟩) 0 0 (len+k) I o' (XbF _ _ _) (by simp) (by simp) E (by simpa using ho)
     ·exact ⟨rfl,rfl,rfl,by simp [World.setRow],λq hq=>setRow_other w m.b q cells' (by omega)⟩
    ·
     have ac: ∃os,(Builtin.firstCells i.size len (.slice (some ⟨m.b,o',none⟩) len I)).run P w.drew= .ok (List.toArray os) w.drew∧VRs μ ((cs.drop o).take (len*i.size)) os:=by
      rcases ho with rfl|rfl
      ·obtain ⟨os,aJ,aN⟩:=Zcm (P:=P) hs.drew hg hm aK
       exact ⟨os,by simpa [Builtin.firstCells] using aJ,aN⟩
      ·have:len=0:=by omega
       subst this
       exact ⟨[],by simp [Builtin.firstCells,loadCells,loadCellsFrom],by simpa using VRs.nil⟩
     obtain ⟨os,ac,ad⟩:=ac
     refine ⟨_,_,Jcx h0 h1 hu O hi hz U ac aE E av aA r J Q,?_⟩
     exact Xel (hs.sub (Sub.drop g l)) aB (ad.append aj) e (by rw [List.length_append,holdlen,Y,Nat.add_mul]) (λ_=>hk (hs.gdom n (Nat.le_refl n)))
   ·exact h.elim
 ·exact h.elim
theorem Qeq {j:Array TypeId} {ty tS tX e:TypeId} {kX:IntKind} {i:TypeInfo} {z:Value} (h0:j[0]? =some tS) (h1:j[1]? =some tX) (hu:P.underlying tS=some (.slice e)) (ai:P.underlying tX=some (.int kX))
  (hi:P.info? e=some i) (hz:i.zero=some z) (hp:plain 3 z=true) (E:z.cells.size=i.size) (hs:Sim μ g n w B) {s s' x x':Value} (aj:VR μ s s') (ac:VR μ x x') (r:Array Value) (ae:r[0]? =some s') (ad:r[1]? =some x')
  (h:Jbm s x z.cells.toList i.bytes g n K): ∃v w',(Builtin.append_ j ty r).run P w= .ok v w'∧Fin B w μ K v w':=by
 unfold Jbm at h
 split at h
 ·rename_i a
  obtain ⟨ah,an,am,V,Z⟩:=h
  have J:z.cells.toList.length=i.size:=by simp [E]
  rw [J] at ah
  cases aj with
  | nilslice=>
  cases ac
  have hw:IntKind.i64.wrap a=a:=IntWalk.i64_in a ⟨by omega,by omega⟩
  obtain ⟨k,rfl⟩: ∃k:Nat,a=(k:Int):=⟨a.toNat,by omega⟩
  simp only [Int.toNat_natCast] at Z V
  have al:=growslice_fits (need:=k) (old:=0) (bytes:=i.bytes) (by omega) (by omega)
  have O: ¬(281474976710656<Builtin.nextslicecap k 0*i.bytes):=by omega
  have Y: ¬((k:Int)<0):=by omega
  have Q: ¬(281474976710656<(k:Int)*(i.bytes:Int)):=by
   have:((k*i.bytes:Nat):Int)≤1099511627776:=by omega
   rw [Int.natCast_mul] at this;omega
  have U: ¬(9223372036854775807<(k:Int)):=by omega
  have ak: ¬(k=0):=by omega
  have ab:(Builtin.zeroCells z.cells k).toList=reps k z.cells.toList:=Xdp z.cells k _ rfl
  have run:(Builtin.append_ j ty r).run P w= .ok (.slice (some ⟨w.heap.size,0,none⟩) k (grownCap w k 0 e))
    (w.drew.alloc (.cells (reps k z.cells.toList++(Builtin.zeroCells z.cells (grownCap w k 0 e-k)).toList).toArray e)):=by
   have aa: ¬(i.size=0):=by omega
   have af: ¬(k*i.size=0):=by rw [Nat.mul_eq_zero];omega
   rw [←ab]
   simp [Builtin.append_,Builtin.firstCells,h0,h1,ae,ad,run_underlying hu,run_underlying ai,Zh hi,Zdq hi,asInt,asIntOf,hw,Y,Q,U,O,ak,aa,zeroValue,hz,Question.forced,newRow,grownCap]
   rw [if_neg af]
   congr 3
   simp
  refine ⟨_,_,run,?_⟩
  have I:(reps k z.cells.toList).length=k*i.size:=by rw [XbL];simp [E]
  rw [J] at Z
  exact Xel hs E ((QcM hp).reps k) e I Z
 ·exact h.elim
end
section
variable {P:Program} {B:Nat} {w:World} {μ:Mu} {g:G} {n:Nat} {K:Cont}
theorem Qf2 {J:Array TypeId} {ty tD e:TypeId} {i:TypeInfo} (h0:J[0]? =some tD) (hu:P.underlying tD=some (.slice e)) (hi:P.info? e=some i) (hs:Sim μ g n w B) {d d' s s':Value} (hd:VR μ d d') (V:VR μ s s')
  (r:Array Value) (U:r[0]? =some d') (Q:r[1]? =some s') (h:Jcg d s i.size g λv g=>K v g n):
  ∃v w',(Builtin.copy_ J ty r).run P w= .ok v w'∧Fin B w μ K v w':=by
 unfold Jcg at h
 split at h
 ·rename_i base len c sa k cs
  obtain ⟨new,⟨ae,h⟩,ah⟩:=XdP h
  obtain ⟨_,vs,hf,aa,rfl,ab⟩:=JbS (P:=P) hs V (by simp [lenOf];omega) ah
  have Y:=Zgo (P:=P) V (rfl:Value.slice sa k cs=_) w
  have run: ∀(j:Option Addr) (I:Nat) (w':World),d'= .slice j len I→(match j with|some a=>(storeCells a vs).run P w= .ok () w'|none=>w'=w)→
    (Builtin.copy_ J ty r).run P w= .ok (goInt (min k len:Nat)) w':=by
   intro j I w' af E
   subst af
   have Z:(Builtin.firstCells i.size (Nat.min k len) s').run P w= .ok vs.toArray w:=hf
   cases j with
   | none=>subst E;simp [Builtin.copy_,h0,U,Q,run_underlying hu,Y,Zh hi,Z]
   | some a=>simp [Builtin.copy_,h0,U,Q,run_underlying hu,Y,Zh hi,Z,E]
  cases base with
  | none=>
   cases hd
   exact ⟨_,_,run none 0 w rfl rfl,Xl hs (.int _ _) h⟩
  | some a=>
   obtain ⟨l,o,sp⟩:=a
   have ad:sp=none:=by cases hd<;>rfl
   subst ad
   simp only at h
   have hx: ∃m I o',d'= .slice (some o') len I∧μ l=some m∧(o'=⟨m.b,m.s+o,none⟩∨len=0):=by
    cases hd with
    | @slx _ m _ _ _ o' hc hn hm ho=>exact ⟨m,c,o',rfl,hm,ho.imp id λe=>by omega⟩
    | @sll _ m _ q _ I o' hm h1 h2 h3 ho=>exact ⟨m,I,_,rfl,hm,ho.imp (λe=>by rw [e]) λe=>by omega⟩
   obtain ⟨m,I,o',rfl,hm,ho⟩:=hx
   split at h
   ·rename_i O
    subst O
    cases aa
    exact ⟨_,_,run _ I w rfl (by simp [storeCells]),Xl hs (.int _ _) h⟩
   ·rename_i ac
    rcases ho with rfl|rfl
    ·obtain ⟨w',g',E,hk,ai,hb⟩:=Jcl (P:=P) hs hm aa h
     exact ⟨_,w',run _ I w' rfl E,_,g',n,μ,hk,.int _ _,ai,Ext.refl μ,hb⟩
    ·exact absurd (List.eq_nil_of_length_eq_zero (by rw [ab];simp)) ac
 ·exact h.elim
theorem Qfc {E:Array TypeId} {ty tD e:TypeId} {i:TypeInfo} {z:Value} (Y:E[0]? =some tD) (hu:P.underlying tD=some (.slice e)) (hi:P.info? e=some i) (hz:i.zero=some z) (hp:plain 3 z=true) (hs:Sim μ g n w B)
  {d d':Value} (hd:VR μ d d') (r:Array Value) (O:r[0]? =some d') (h:Xaz d z.cells.toList g λv g=>K v g n):
  ∃v w',(Builtin.clear_ E ty r).run P w= .ok v w'∧Fin B w μ K v w':=by
 have aa:VRs μ z.cells.toList z.cells.toList:=QcM hp
 unfold Xaz at h
 split at h
 ·cases hd
  exact ⟨undef,w,by simp [Builtin.clear_,Y,O,run_underlying hu];rfl,Xl hs (Xat μ) h⟩
 ·rename_i l o len c
  have hx: ∃m V o',d'= .slice (some o') len V∧μ l=some m∧(o'=⟨m.b,m.s+o,none⟩∨len=0):=by
   cases hd with
   | @slx _ m _ _ _ o' hc hn hm U=>exact ⟨m,c,o',rfl,hm,U.imp id λe=>by omega⟩
   | @sll _ m _ q _ V o' hm h1 h2 h3 U=>exact ⟨m,V,_,rfl,hm,U.imp (λe=>by rw [e]) λe=>by omega⟩
  obtain ⟨m,V,o',rfl,hm,U⟩:=hx
  have Z:(Builtin.zeroCells z.cells len).toList=reps len z.cells.toList:=Xdp z.cells len _ rfl
  have run: ∀w',len≠0→(storeCells o' (reps len z.cells.toList)).run P w= .ok () w'→(Builtin.clear_ E ty r).run P w= .ok undef w':=by
   intro w' I j
   obtain ⟨q,rfl⟩: ∃q,len=q+1:=⟨len-1,by omega⟩
   rw [←Z] at j
   simp [Builtin.clear_,Y,O,run_underlying hu,zeroValue,typeInfo,hi,hz,j];rfl
  split at h
  ·rename_i J
   by_cases I:len=0
   ·subst I
    exact ⟨undef,w,by simp [Builtin.clear_,Y,O,run_underlying hu];rfl,Xl hs (Xat μ) h⟩
   ·have Q:=J.resolve_left I
    refine ⟨undef,w,run w I ?_,Xl hs (Xat μ) h⟩
    have:reps len z.cells.toList=[]:=by rw [Q];simp [reps]
    rw [this];simp [storeCells]
  ·rename_i J
   have I:len≠0:=λe=>J (.inl e)
   rcases U with rfl|rfl
   ·obtain ⟨w',g',j,hk,ab,hb⟩:=Jcl (P:=P) hs hm (aa.reps len) h
    exact ⟨undef,w',run w' I j,_,g',n,μ,hk,Xat μ,ab,Ext.refl μ,hb⟩
   ·exact absurd rfl I
 ·exact h.elim
theorem ZfT {ty e:TypeId} {i:TypeInfo} {z:Value} (Y:P.underlying ty=some (.slice e)) (j:P.info? e=some i) (hz:i.zero=some z) (hp:plain 3 z=true) (E:z.cells.size=i.size) (hs:Sim μ g n w B)
  {x x' y y':Value} (hx:VR μ x x') (hy:VR μ y y') (h:Zcr x y z.cells.toList i.bytes g n K): ∃v w',(Instr.makeSlice ty x' y').run P w= .ok v w'∧Fin B w μ K v w':=by
 have Q:VRs μ z.cells.toList z.cells.toList:=QcM hp
 obtain ⟨k1,a,rfl,hq⟩:=JbL h
 obtain ⟨k2,c,rfl,ha,U,hb,hc,hk⟩:=JbL hq
 cases hx;cases hy
 have ea:IntKind.i64.wrap a=a:=IntWalk.i64_in a (by omega)
 have ec:IntKind.i64.wrap c=c:=IntWalk.i64_in c (by omega)
 have I:c.toNat<LC:=by simp only [LC];omega
 refine ⟨_,_,?_,Qd0 hs (Q.reps c.toNat) e I (by omega) hk⟩
 have ab:(i.bytes:Int)*c≤1099511627776:=by rw [Int.mul_comm];exact hb
 have aa:(i.bytes:Int)*a≤(i.bytes:Int)*c:=Int.mul_le_mul_of_nonneg_left U (by omega)
 have J:(zeroValue e).run P w= .ok z w:=by simp [zeroValue,typeInfo,j,hz]
 have V: ¬(c<0):=by omega
 have h2: ¬(281474976710656<(i.bytes:Int)*c):=by omega
 have Z: ¬(a<0):=by omega
 have h4: ¬(c<a):=by omega
 have hm:(max 0 c).toNat=c.toNat:=by congr 1;omega
 by_cases h0:c.toNat*i.size=0
 ·have O:reps c.toNat z.cells.toList=[]:=by
   apply List.eq_nil_of_length_eq_zero
   rw [XbL];simp only [Array.length_toList,E,h0]
  rw [O]
  simp [Instr.makeSlice,run_underlying Y,asInt,asIntOf,Zdq j,ea,ec,V,h2,Z,h4,Zh j,h0,newRow,Array.range_zero']
 ·have O:=Xdp z.cells c.toNat (c.toNat*i.size) (by rw [E])
  rw [←O]
  simp [Instr.makeSlice,run_underlying Y,asInt,asIntOf,Zdq j,ea,ec,V,h2,Z,h4,Zh j,h0,newRow,J]
  congr 2
  apply Array.ext'
  simp
end
section
variable {P:Program} {B:Nat} {w:World} {μ:Mu} {g:G} {n:Nat} {K:Cont}
theorem Qcl {l:Nat} {J:List (Value×Value)→Prop} (h:JeE g l J): ∃es,g l=some (.map es)∧J es:=by
 unfold JeE at h
 split at h
 ·rename_i es j;exact ⟨es,j,h⟩
 ·exact h.elim
theorem Zep {kk:IntKind} {v:Value} {J:Int→Prop} (h:JgP kk v J): ∃a,v= .int kk a∧J a:=by
 unfold JgP at h
 split at h
 ·obtain ⟨rfl,h⟩:=h;exact ⟨_,rfl,h⟩
 ·exact h.elim
theorem ZdF {kk:IntKind} {a:Int} {es:List (Value×Value)} {J:Option Nat→Prop} (h:JcW kk a es J): ∃r,Jef kk a es 0=some r∧J r:=by
 unfold JcW at h
 split at h
 ·rename_i r j;exact ⟨r,j,h⟩
 ·exact h.elim
theorem Qel {es:List (Value×Value)} {i:Nat} {J:Value×Value→Prop} (h:kAt es i J): ∃e,es[i]? =some e∧J e:=by
 unfold kAt at h
 split at h
 ·rename_i e he;exact ⟨e,he,h⟩
 ·exact h.elim
theorem QeB {t:TypeId} {J:Value→Prop} (h:Jeg P t J): ∃i z,P.info? t=some i∧i.zero=some z∧plain 3 z=true∧J z:=by
 unfold Jeg at h
 split at h
 ·rename_i i j
  split at h
  ·rename_i z E
   split at h
   ·rename_i hp;exact ⟨i,z,j,E,hp,h⟩
   ·exact h.elim
  ·exact h.elim
 ·exact h.elim
theorem Qc0 {t:TypeId} {J:IntKind→TypeId→Prop} (h:mapOf P t J): ∃j kk e,P.underlying t=some (.map j e)∧P.underlying j=some (.int kk)∧J kk e:=by
 unfold mapOf at h
 split at h
 ·rename_i j e I
  split at h
  ·rename_i kk E;exact ⟨j,kk,e,I,E,h⟩
  ·exact h.elim
 ·exact h.elim
theorem Zfz {t:TypeId} {i:TypeInfo} {z:Value} (j:P.info? t=some i) (E:i.zero=some z):(zeroValue t).run P w= .ok z w:=by simp [zeroValue,typeInfo,j,E]
structure MapR (μ:Mu) (es:List (Value×Value)) (ms:List MapEntry):Prop where
 len:ms.length=es.length
 born: ∀(i:Nat) (e:MapEntry),ms[i]? =some e→e.born=i
 rel: ∀(i:Nat) (kv:Value×Value),es[i]? =some kv→ ∃e:MapEntry,ms[i]? =some e∧plain 3 kv.1=true∧e.key=kv.1∧VR μ kv.2 e.val
theorem Xcl {kk:IntKind} {a:Int}: ∀(es:List (Value×Value)) (ms:List MapEntry) (j:Nat) (r:Option Nat),Jef kk a es j=some r→ms.length=es.length→
  (∀(i:Nat) (Q:Value×Value),es[i]? =some Q→ ∃e:MapEntry,ms[i]? =some e∧e.key=Q.1)→
  (r=none∧Instr.findNow (.int kk) (.int kk a) ms j=some none)∨(∃i e,r=some (j+i)∧ms[i]? =some e∧e.key= .int kk a∧Instr.findNow (.int kk) (.int kk a) ms j=some (some (j+i,e.val)))
 | [],[],j,r,h,_,_=>by
  simp [Jef] at h;subst h;exact .inl ⟨rfl,rfl⟩
 | [],_::_,_,_,_,J,_=>by simp at J
 | _::_,[],_,_,_,J,_=>by simp at J
 |(k,v)::es,m::ms,j,r,h,J,Z=>by
  obtain ⟨e,he,I⟩:=Z 0 (k,v) rfl
  simp at he;subst he
  simp only at I
  cases k<;>simp only [Jef] at h<;>try (cases h;done)
  rename_i k b
  split at h
  ·rename_i U
   subst U
   split at h
   ·rename_i E
    subst E
    cases h
    exact .inr ⟨0,m,rfl,rfl,I,by simp [Instr.findNow,I,Instr.sameNow]⟩
   ·rename_i E
    have O:(a==b)=false:=by simpa using E
    rcases Xcl es ms (j+1) r h (by simpa using J) (λi Q hi=>Z (i+1) Q (by simpa using hi)) with ⟨V,Y⟩|⟨i,e,V,Y,h3,h4⟩
    ·exact .inl ⟨V,by simp [Instr.findNow,I,Instr.sameNow,O,Y]⟩
    ·refine .inr ⟨i+1,e,by rw [V];congr 1;omega,by simpa using Y,h3,?_⟩
     simp only [Instr.findNow,I,Instr.sameNow,if_true,O,h4]
     congr 3;omega
  ·cases h
theorem Sim.mapR (hs:Sim μ g n w B) {l:Nat} {m:Pl} {es:List (Value×Value)} (Q:g l=some (.map es)) (hm:μ l=some m):
  ∃j:Array MapEntry,w.heap[m.b]? =some (.map j es.length)∧B≤m.b∧MapR μ es j.toList:=by
 obtain ⟨j,J,I,E,U,O⟩:=hs.live l _ m Q hm
 exact ⟨j,J,I,⟨by simpa using E,λi e h=>U i e (by simpa using h),λi V h=>let ⟨e,a,b,c,d⟩:=O i V h;⟨e,by simpa using a,b,c,d⟩⟩⟩
theorem MapR.set {es:List (Value×Value)} {ms:List MapEntry} (h:MapR μ es ms) {j:Nat} {k v O:Value} {e:MapEntry} (Q:ms[j]? =some e) (hp:plain 3 k=true) (U:VR μ v O):MapR μ (es.set j (k,v)) (ms.set j { e with key:=k,val:=O }):=by
 have I:j<ms.length:=(List.getElem?_eq_some_iff.1 Q).1
 refine ⟨by simp [h.len],?_,?_⟩
 ·intro i x hx
  rw [List.getElem?_set] at hx
  split at hx
  ·rename_i E
   subst E
   simp [I] at hx
   subst hx
   exact h.born j e Q
  ·exact h.born _ _ hx
 ·intro i V J
  rw [List.getElem?_set] at J ⊢
  split at J
  ·rename_i E
   subst E
   have:j<es.length:=by rw [←h.len];exact I
   simp [this] at J
   subst J
   exact ⟨{ e with key:=k,val:=O },by simp [I],hp,rfl,U⟩
  ·rename_i E
   rw [if_neg E]
   exact h.rel _ _ J
theorem MapR.push {es:List (Value×Value)} {ms:List MapEntry} (h:MapR μ es ms) {k v E:Value} (hp:plain 3 k=true) (O:VR μ v E):MapR μ (es++[(k,v)]) (ms++[{ key:=k,val:=E,born:=es.length }]):=by
 refine ⟨by simp [h.len],?_,?_⟩
 ·intro i x hx
  rcases Nat.lt_or_ge i ms.length with j|j
  ·rw [List.getElem?_append_left j] at hx;exact h.born _ _ hx
  ·rw [List.getElem?_append_right j] at hx
   have:i-ms.length=0:=by
    have:=(List.getElem?_eq_some_iff.1 hx).1
    simp at this;omega
   rw [this] at hx
   simp at hx
   subst hx
   have:=h.len
   simp only;omega
 ·intro i U j
  have J:=h.len
  rcases Nat.lt_or_ge i es.length with I|I
  ·rw [List.getElem?_append_left I] at j
   rw [List.getElem?_append_left (by omega)]
   exact h.rel _ _ j
  ·rw [List.getElem?_append_right I] at j
   have Q:i-es.length=0:=by
    have:=(List.getElem?_eq_some_iff.1 j).1
    simp at this;omega
   rw [Q] at j
   simp at j
   subst j
   refine ⟨{ key:=k,val:=E,born:=es.length },?_,hp,rfl,O⟩
   rw [List.getElem?_append_right (by omega)]
   have:i-ms.length=0:=by omega
   rw [this];rfl
def JfY (w:World) (b:Nat) (o:Obj):World:={ w with heap:=w.heap.setIfInBounds b o }
theorem XeC {b:Nat} {o j:Obj} (hb:w.heap[b]? =some j):(JfY w b o).heap[b]? =some o:=(MapKept.heap_set hb).1
theorem Qe5 (w:World) {b k:Nat} (o:Obj) (h:k≠b):(JfY w b o).heap[k]? =w.heap[k]? :=by
 simp [JfY,Array.getElem?_setIfInBounds_ne (Ne.symm h)]
theorem Xd1 {b:Nat} {o:Obj} (hb:B≤b):Below B w (JfY w b o):=
 ⟨rfl,rfl,rfl,by simp [JfY],λk j=>Qe5 w o (by omega)⟩
theorem Sim.setMap (hs:Sim μ g n w B) {l:Nat} {m:Pl} {es j:List (Value×Value)} {ms:Array MapEntry} (I:g l=some (.map es)) (hm:μ l=some m) (E:MapR μ j ms.toList):
  Sim μ (upd g l (some (.map j))) n (JfY w m.b (.map ms j.length)) B∧Below B w (JfY w m.b (.map ms j.length)):=by
 obtain ⟨V,Q,J,_⟩:=hs.mapR I hm
 refine ⟨hs.setBlk I rfl hm (λk O=>Qe5 w _ O) (by simp [JfY]) ?_,Xd1 J⟩
 exact ⟨ms,XeC Q,J,by simpa using E.len,λi e h=>E.born i e (by simpa using h),λi U h=>let ⟨e,a,b,c,d⟩:=E.rel i U h;⟨e,by simpa using a,b,c,d⟩⟩
theorem isKey {kk:IntKind} (a:Int):MapKept.IsKey (.int kk) (.int kk a):=rfl
theorem QeC {l:Nat} {j:Value} (h:VR μ (.map (some l)) j): ∃m,μ l=some m∧j= .map (some m.b):=by
 cases h with|map hm=>exact ⟨_,hm,rfl⟩
theorem Jer {x y x' j:Value} (hx:VR μ x x') (E:VR μ y j):VR μ (.tuple #[x,y]) (.tuple #[x',j]):=by
 refine .tuple rfl ?_
 intro i p q hp hq
 match i,hp,hq with
 | 0,hp,hq=>simp at hp hq;subst hp;subst hq;exact hx
 | 1,hp,hq=>simp at hp hq;subst hp;subst hq;exact E
 | i+2,hp,hq=>simp at hp
theorem ZgG {x y z x' E j:Value} (hx:VR μ x x') (I:VR μ y E) (J:VR μ z j):VR μ (.tuple #[x,y,z]) (.tuple #[x',E,j]):=by
 refine .tuple rfl ?_
 intro i p q hp hq
 match i,hp,hq with
 | 0,hp,hq=>simp at hp hq;subst hp;subst hq;exact hx
 | 1,hp,hq=>simp at hp hq;subst hp;subst hq;exact I
 | 2,hp,hq=>simp at hp hq;subst hp;subst hq;exact J
 | i+3,hp,hq=>simp at hp
theorem ZhH {v j:Value} (ok b:Bool) (E:VR μ v j):VR μ (match ok with|true=> .tuple #[v,.bool b]|false=>v) (if ok=true then .tuple #[j,.bool b] else j):=by
 cases ok with
 | false=>exact E
 | true=>exact Jer E (.bool b)
theorem QeL {xt kt e:TypeId} {kk:IntKind} {i:TypeInfo} {z:Value} (Y:P.underlying xt=some (.map kt e)) (I:P.underlying kt=some (.int kk)) (V:P.info? e=some i) (hz:i.zero=some z) (hp:plain 3 z=true)
  (hs:Sim μ g n w B) {x x' y y':Value} (hx:VR μ x x') (hy:VR μ y y') {ok:Bool} {J:Value→Prop} (h:Qce kk x y z ok g J):
  ∃v v',(Instr.lookup xt x' y' ok).run P w= .ok v' w∧VR μ v v'∧J v:=by
 obtain ⟨a,ha,hq⟩:=Zep h
 clear h
 subst ha
 cases hy
 have Q:=Zfz (w:=w) V hz
 have U:VR μ z z:=XaW μ 3 z hp
 split at hq
 ·cases hx
  refine ⟨_,_,?_,ZhH ok false U,hq⟩
  simp [Instr.lookup,run_underlying Y,MapKept.run_checkKey I (isKey a),MapKept.run_findKey I (show Instr.findNow (.int kk) (.int kk a) [] 0=some none from rfl),Q]
 ·rename_i l
  obtain ⟨m,hm,rfl⟩:=QeC hx
  obtain ⟨es,hg,hq⟩:=Qcl hq
  obtain ⟨r,hf,hq⟩:=ZdF hq
  obtain ⟨en,hh,_,hR⟩:=hs.mapR hg hm
  rcases Xcl es en.toList 0 r hf hR.len (λi kv V=>let ⟨e,a,_,c,_⟩:=hR.rel i kv V;⟨e,a,c⟩) with ⟨rfl,E⟩|⟨j,me,rfl,hj,aa,E⟩
  ·refine ⟨_,_,?_,ZhH ok false U,hq⟩
   simp [Instr.lookup,run_underlying Y,MapKept.run_getObj_map hh,MapKept.run_checkKey I (isKey a),MapKept.run_findKey I E,Q]
  ·simp only [Nat.zero_add] at hq E
   obtain ⟨kv,Z,hq⟩:=Qel hq
   obtain ⟨e',O,_,_,hv⟩:=hR.rel j kv Z
   rw [hj] at O;cases O
   refine ⟨_,_,?_,ZhH ok true hv,hq⟩
   simp [Instr.lookup,run_underlying Y,MapKept.run_getObj_map hh,MapKept.run_checkKey I (isKey a),MapKept.run_findKey I E]
 ·exact hq.elim
theorem Jc3 {es:Array MapEntry} {j:Nat} {e:MapEntry} (J:es.toList[j]? =some e) (f:MapEntry→MapEntry):(es.modify j f).toList=es.toList.set j (f e):=by
 apply List.ext_getElem?
 intro i
 rw [Array.getElem?_toList,Array.getElem?_modify,List.getElem?_set]
 have E:j<es.toList.length:=(List.getElem?_eq_some_iff.1 J).1
 by_cases h:j=i
 ·subst h
  have I:es[j]? =some e:=by simpa using J
  rw [I,if_pos rfl,if_pos rfl,if_pos E]
  rfl
 ·simp [h]
theorem Jdd {ty kt e:TypeId} {kk:IntKind} (hu:P.underlying ty=some (.map kt e)) (O:P.underlying kt=some (.int kk)) (hs:Sim μ g n w B) {x x' y y' z Q:Value} (hx:VR μ x x') (hy:VR μ y y') (hz:VR μ z Q)
  (h:ZaV kk x y z g λg=>K undef g n): ∃w',(Instr.mapUpdate ty x' y' Q).run P w= .ok () w'∧Fin B w μ K undef w':=by
 obtain ⟨a,ha,hq⟩:=Zep h
 clear h
 have h:=hq
 clear hq
 subst ha
 cases hy
 split at h
 ·rename_i l
  obtain ⟨m,hm,rfl⟩:=QeC hx
  obtain ⟨es,hg,h⟩:=Qcl h
  obtain ⟨r,hf,h⟩:=ZdF h
  obtain ⟨Y,V,_,Z⟩:=hs.mapR hg hm
  rcases Xcl es Y.toList 0 r hf Z.len (λi kv hi=>let ⟨e,a,_,c,_⟩:=Z.rel i kv hi;⟨e,a,c⟩) with ⟨rfl,E⟩|⟨j,me,rfl,hj,J,E⟩
  ·have I:MapR μ (es++[(.int kk a,z)]) (Y.push { key:= .int kk a,val:=Q,born:=es.length }).toList:=by
    rw [Array.toList_push];exact Z.push rfl hz
   obtain ⟨U,h2⟩:=hs.setMap hg hm I
   refine ⟨_,?_,_,_,n,μ,h,Xat μ,U,Ext.refl μ,h2⟩
   simp [Instr.mapUpdate,run_underlying hu,MapKept.run_getObj_map V,MapKept.run_checkKey O (isKey a),MapKept.run_findKey O E,MapKept.run_setObj_map _ V,JfY]
  ·simp only [Nat.zero_add] at h E
   have I:MapR μ (es.set j (.int kk a,z)) (Y.modify j λe=>{ e with key:= .int kk a,val:=Q }).toList:=by
    rw [Jc3 hj];exact Z.set hj rfl hz
   obtain ⟨U,h2⟩:=hs.setMap hg hm I
   rw [List.length_set] at U h2
   refine ⟨_,?_,_,_,n,μ,h,Xat μ,U,Ext.refl μ,h2⟩
   have aa:Y[j]? =some me:=by simpa using hj
   simp [Instr.mapUpdate,run_underlying hu,MapKept.run_getObj_map V,MapKept.run_checkKey O (isKey a),MapKept.run_findKey O E,aa,J,MapKept.run_keyThatStays (isKey a),MapKept.run_setObj_map _ V,JfY]
 ·exact h.elim
theorem QdT {ty kt e:TypeId} {kk:IntKind} {i:TypeInfo} {z:Value} (hu:P.underlying ty=some (.map kt e)) (Y:P.underlying kt=some (.int kk)) (hi:P.info? e=some i) (hz:i.zero=some z) (hp:plain 3 z=true) (hs:Sim μ g n w B)
  {x x' y y':Value} (hx:VR μ x x') (hy:VR μ y y') (h:Xb8 kk x y z g λv g=>K v g n): ∃v w',(Instr.mapEntry ty x' y').run P w= .ok v w'∧Fin B w μ K v w':=by
 obtain ⟨a,ha,hq⟩:=Zep h
 clear h
 have h:=hq
 clear hq
 subst ha
 cases hy
 have ab:=Zfz (w:=w) hi hz
 have V:VR μ z z:=XaW μ 3 z hp
 split at h
 ·rename_i l
  obtain ⟨m,hm,rfl⟩:=QeC hx
  obtain ⟨es,hg,h⟩:=Qcl h
  obtain ⟨r,hf,h⟩:=ZdF h
  obtain ⟨en,hh,_,J⟩:=hs.mapR hg hm
  rcases Xcl es en.toList 0 r hf J.len (λi kv hi=>let ⟨e,a,_,c,_⟩:=J.rel i kv hi;⟨e,a,c⟩) with ⟨rfl,E⟩|⟨j,me,rfl,Q,O,E⟩
  ·have I:MapR μ (es++[(.int kk a,z)]) (en.push { key:= .int kk a,val:=z,born:=es.length }).toList:=by
    rw [Array.toList_push];exact J.push rfl V
   obtain ⟨Z,h2⟩:=hs.setMap hg hm I
   refine ⟨.tuple #[z,.int .i64 es.length],_,?_,_,_,n,μ,h,Jer V (.int _ _),Z,Ext.refl μ,h2⟩
   simp [Instr.mapEntry,run_underlying hu,MapKept.run_getObj_map hh,MapKept.run_checkKey Y (isKey a),MapKept.run_findKey Y E,MapKept.run_setObj_map _ hh,JfY,ab,goInt]
  ·simp only [Nat.zero_add] at h E
   obtain ⟨kv,ac,h⟩:=Qel h
   obtain ⟨e',U,_,_,hv⟩:=J.rel j kv ac
   rw [Q] at U;cases U
   have I:MapR μ (es.set j (.int kk a,kv.2)) (en.modify j λe=>{ e with key:= .int kk a }).toList:=by
    rw [Jc3 Q]
    exact J.set Q rfl hv
   obtain ⟨Z,h2⟩:=hs.setMap hg hm I
   rw [List.length_set] at Z h2
   have aa:en[j]? =some me:=by simpa using Q
   have hb:me.born=j:=J.born _ _ Q
   refine ⟨.tuple #[me.val,.int .i64 j],_,?_,_,_,n,μ,h,Jer hv (.int _ _),Z,Ext.refl μ,h2⟩
   simp [Instr.mapEntry,run_underlying hu,MapKept.run_getObj_map hh,MapKept.run_checkKey Y (isKey a),MapKept.run_findKey Y E,aa,O,MapKept.run_keyThatStays (isKey a),MapKept.run_setObj_map _ hh,JfY,goInt,hb]
 ·exact h.elim
theorem Qgr {ms:Array MapEntry} (hb: ∀(i:Nat) (e:MapEntry),ms.toList[i]? =some e→e.born=i) {j:Nat} {J:MapEntry} (O:ms.toList[j]? =some J):ms.findIdx? (λe=>(e.born:Int)==(j:Int))=some j:=by
 have I:j<ms.size:=by have:=(List.getElem?_eq_some_iff.1 O).1;simpa using this
 have E: ∀(i:Nat) (h:i<ms.size),ms[i].born=i:=λi h=>hb i ms[i] (by simp [h])
 rw [Array.findIdx?_eq_some_iff_getElem]
 refine ⟨I,?_,λi Q=> ?_⟩
 ·rw [E j I];simp
 ·rw [E i (by omega)]
  simp;omega
theorem Qdh {ty:TypeId} (hs:Sim μ g n w B) {x x' y y' z I:Value} (hx:VR μ x x') (hy:VR μ y y') (hz:VR μ z I)
  (h:Zbc x y z g λg=>K undef g n): ∃w',(Instr.entryStore ty x' y' I).run P w= .ok () w'∧Fin B w μ K undef w':=by
 obtain ⟨k,j,ha,hq⟩:=JbL h
 clear h
 have h:=hq
 clear hq
 subst ha
 cases hy
 split at h
 ·rename_i l
  obtain ⟨m,hm,rfl⟩:=QeC hx
  obtain ⟨es,hg,h0,h⟩:=Qcl h
  obtain ⟨kv,Q,h⟩:=Qel h
  obtain ⟨en,Z,_,U⟩:=hs.mapR hg hm
  obtain ⟨me,J,O,E,hv⟩:=U.rel _ kv Q
  have V:MapR μ (es.set j.toNat (kv.1,z)) (en.modify j.toNat λe=>{ e with val:=I }).toList:=by
   rw [Jc3 J]
   have:=U.set J O hz
   rw [←E] at this ⊢
   exact this
  obtain ⟨Y,h2⟩:=hs.setMap hg hm V
  rw [List.length_set] at Y h2
  refine ⟨_,?_,_,_,n,μ,h,Xat μ,Y,Ext.refl μ,h2⟩
  have hf:=Qgr U.born J
  rw [Int.toNat_of_nonneg h0] at hf
  simp [Instr.entryStore,MapKept.run_getObj_map Z,asInt,asIntOf,hf,MapKept.run_setObj_map _ Z,JfY]
 ·exact h.elim
theorem Sim.newB (hs:Sim μ g n w B) {b:Blk} {o:Obj} (hb: ∀w':World,w'.heap[w.heap.size]? =some o→BlkOk (Jcd μ n ⟨w.heap.size,0,0,0⟩) b ⟨w.heap.size,0,0,0⟩ w' B):
  Sim (Jcd μ n ⟨w.heap.size,0,0,0⟩) (upd g n (some b)) (n+1) (w.alloc o) B∧Below B w (w.alloc o):=by
 refine ⟨hs.place (by simp;have:=hs.base;omega) ?_ (hb _ ?_),(Below.refl B w).alloc hs.base o⟩
 ·intro l E I e f
  have j:=(hs.live l E I e f).lt
  exact ⟨by simp;omega,Below.heap_alloc _ _ _ j⟩
 ·show (w.heap.push _)[w.heap.size]? =_;simp
theorem Qdd (hs:Sim μ g n w B) (h:ZeV (.map []) g n λl g n=>K (.map (some l)) g n):Fin B w μ K (.map (some w.heap.size)) (w.alloc (.map #[] 0)):=by
 have E:=h (hs.gdom n (Nat.le_refl n))
 obtain ⟨I,J⟩:=hs.newB (b:= .map []) (o:= .map #[] 0) (λw' j=>⟨#[],j,hs.base,rfl,by simp,by simp⟩)
 exact ⟨_,_,n+1,_,E,.map (XbF μ n ⟨w.heap.size,0,0,0⟩),I,hs.newExt _,J⟩
theorem Jfh {j E e:TypeId} (Q:P.underlying j=some (.map E e)) (hs:Sim μ g n w B) {x x':Value} (hx:VR μ x x') (h:Xdd x g n λl g n=>K (ptr l 0) g n):
  ∃v w',(Instr.range j x').run P w= .ok v w'∧Fin B w μ K v w':=by
 unfold Xdd at h
 split at h
 ·rename_i l
  obtain ⟨m,hm,rfl⟩:=QeC hx
  obtain ⟨es,Y,h⟩:=Qcl h
  obtain ⟨U,O,hB,hR⟩:=hs.mapR Y hm
  have I:=h (hs.gdom n (Nat.le_refl n))
  obtain ⟨J,Z⟩:=hs.newB (b:= .iter l es.length []) (o:= .mapIter (some m.b) es.length #[] es.length) (λw' V=>⟨m,hs.newExt _ _ _ hm,rfl,hs.base,V⟩)
  refine ⟨_,_,run_range_map w j E e m.b U es.length Q O,_,_,n+1,_,I,?_,J,hs.newExt _,Z⟩
  exact VR.ptr (m:=⟨w.heap.size,0,0,0⟩) 0 (XbF μ n _)
 ·exact h.elim
theorem ZeC {x x':Value} (hs:Sim μ g n w B) (hx:VR μ x x') {J:Nat→Nat→List (Value×Value)→List Nat→Prop} (h:Xee x g J):
  ∃p l es seen mp Q,∃U:Array MapEntry,g p=some (.iter l es.length seen)∧μ p=some mp∧g l=some (.map es)∧μ l=some Q∧mp.s=0∧B≤mp.b∧x'= .pointer (some ⟨mp.b,0,none⟩)∧
   w.heap[mp.b]? =some (.mapIter (some Q.b) es.length seen.toArray es.length)∧w.heap[Q.b]? =some (.map U es.length)∧MapR μ es U.toList∧J p l es seen:=by
 unfold Xee at h
 split at h
 ·rename_i p
  split at h
  ·rename_i l cnt seen j
   obtain ⟨es,V,hc,hq⟩:=Qcl h
   clear h
   subst hc
   cases hx with
   | @ptr _ mp _ I=>
    obtain ⟨Q,E,O,Y,Z⟩:=hs.live p _ mp j I
    obtain ⟨U,hh,_,hR⟩:=hs.mapR V E
    exact ⟨p,l,es,seen,mp,Q,U,j,I,V,E,O,Y,by simp [O],Z,hh,hR,hq⟩
  ·exact h.elim
 ·exact h.elim
theorem JfZ {ty:TypeId} (hs:Sim μ g n w B) {x x':Value} (hx:VR μ x x') (h:Zgv x g λv g=>K v g n): ∃v w',(Instr.next x' false ty).run P w= .ok v w'∧Fin B w μ K v w':=by
 obtain ⟨p,l,es,seen,mp,ml,Z,ae,ah,hg,af,aj,hB,rfl,Q,hh,hR,ad,aa⟩:=ZeC hs hx h
 have ac: ∀y∈Z.toList,y.born<es.length:=by
  intro y hy
  obtain ⟨i,Q⟩:=List.mem_iff_getElem?.1 hy
  rw [hR.born i y Q,←hR.len]
  exact (List.getElem?_eq_some_iff.1 Q).1
 rcases run_next_at (P:=P) w ty mp.b ml.b es.length es.length seen.toArray Z es.length Q hh ac (Nat.le_refl _) with ⟨h0,j⟩|⟨me,E,w1,ak,j⟩
 ·refine ⟨_,w,j,Xl hs ?_ (ad ?_)⟩
  ·refine .tuple rfl ?_
   intro i a b ha hb
   match i,ha,hb with
   | 0,ha,hb=>simp at ha hb;subst ha;subst hb;exact .bool _
   | i+1,ha,hb=>simp at ha
  ·intro i Q
   have I:i<Z.toList.length:=by rw [hR.len];exact Q
   have he:leftOf Z seen.toArray= #[]:=Array.eq_empty_of_size_eq_zero h0
   unfold leftOf at he
   rw [Array.filter_eq_empty_iff] at he
   have:=he Z.toList[i] (by rw [←Array.mem_toList_iff];exact List.getElem_mem _)
   have hb:=hR.born i Z.toList[i] (List.getElem?_eq_getElem I)
   rw [hb] at this
   simpa using this
 ·have O:me∈Z.toList∧me.born∉seen:=by
   unfold leftOf at E
   simp at E
   exact ⟨by simpa using E.1,E.2⟩
  obtain ⟨i,V⟩:=List.mem_iff_getElem?.1 O.1
  have hb:=hR.born i me V
  have I:i<es.length:=by rw [←hR.len];exact (List.getElem?_eq_some_iff.1 V).1
  obtain ⟨am,J,ai,ab,hv⟩:=hR.rel i es[i] (List.getElem?_eq_getElem I)
  rw [V] at J;cases J
  have hk:=aa i es[i] (by rw [←hb];exact O.2) (List.getElem?_eq_getElem I)
  have U:Sim μ g n w1 B∧Below B w w1∧w1.heap=w.heap:=by
   rcases ak with rfl|rfl
   ·exact ⟨hs,Below.refl B _,rfl⟩
   ·exact ⟨hs.drew,(Below.refl B w).drew,rfl⟩
  obtain ⟨U,al,Y⟩:=U
  refine ⟨_,_,j,_,_,n,μ,hk,ZgG (.bool _) (by rw [ab];exact XaW μ 3 _ ai) hv,?_,Ext.refl μ,?_⟩
  ·refine U.setBlk ae rfl ah (λk hk=> ?_) (by simp [ChangeMaps.setBlock]) ?_
   ·exact Qe5 w1 _ hk
   ·refine ⟨ml,af,aj,hB,?_⟩
    rw [hb]
    have:(seen.toArray.push i)=(seen++[i]).toArray:=by simp
    rw [←this]
    exact XeC (w:=w1) (by rw [Y];exact Q)
  ·exact al.trans (Xd1 (w:=w1) hB)
theorem Zfd (hs:Sim μ g n w B) {x x':Value} (hx:VR μ x x') {J:Value→Prop} (h:ZeR x g J): ∃v v',(Instr.entry x').run P w= .ok v' w∧VR μ v v'∧J v:=by
 obtain ⟨p,l,es,seen,mp,ml,U,ab,ad,hg,ac,ae,hB,rfl,hi,hh,hR,h⟩:=ZeC hs hx h
 split at h
 ·rename_i i j
  obtain ⟨kv,Z,h⟩:=Qel h
  obtain ⟨V,Q,Y,I,hv⟩:=hR.rel i kv Z
  have hb:=hR.born i V Q
  have E:seen.toArray=(seen.dropLast.toArray).push V.born:=by
   have O:seen≠[]:=by intro e;subst e;simp at j
   have h1:=List.dropLast_concat_getLast O
   rw [List.getLast?_eq_some_getLast O] at j
   cases j
   rw [hb]
   simp [h1]
  rw [E] at hi
  have aa:(U.toList.map (·.born)).Nodup:=by
   have:U.toList.map (·.born)=List.range U.toList.length:=by
    apply List.ext_getElem?
    intro k
    rw [List.getElem?_map]
    by_cases hk:k<U.toList.length
    ·rw [List.getElem?_eq_getElem hk,List.getElem?_range hk]
     simp only [Option.map_some]
     rw [hR.born k _ (List.getElem?_eq_getElem hk)]
    ·rw [List.getElem?_eq_none (by omega),List.getElem?_eq_none (by simp at hk ⊢;omega)];rfl
   rw [this];exact List.nodup_range
  refine ⟨_,_,run_entry_at w mp.b ml.b es.length seen.dropLast.toArray U es.length V hi hh (List.mem_of_getElem? Q) aa,Jer (by rw [I];exact XaW μ 3 _ Y) hv,h⟩
 ·exact h.elim
theorem Jf7 {j:Array TypeId} {ty t:TypeId} (I:j[0]? =some t) (O:P.underlying t=some .string) {x x':Value} (r:Array Value) (hx:VR μ x x') {J:Value→Prop} (E:r[0]? =some x') (h:QdO x J):
  ∃v,(Builtin.len_ j ty r).run P w= .ok v w∧VR μ v v∧J v:=by
 unfold QdO at h
 split at h
 ·cases hx
  refine ⟨_,?_,.int _ _,h⟩
  simp [Builtin.len_,I,E,run_underlying O,goInt]
 ·exact h.elim
theorem ZeI {E:TypeId} (U:P.underlying E=some .string) {x x' y I:Value} (hx:VR μ x x') (Q:VR μ y I) {J:Value→Prop} (h:QdS x y J):
  ∃v j,(Instr.index E x' I).run P w= .ok j w∧VR μ v j∧J v:=by
 unfold QdS at h
 split at h
 ·cases hx;cases Q
  obtain ⟨O,h⟩:=h
  split at h
  ·rename_i b hb
   refine ⟨_,_,?_,.int _ _,h⟩
   simp [Instr.index,asIntOf,run_underlying U,O,hb]
  ·exact h.elim
 ·exact h.elim
theorem QgJ {E:Array TypeId} {ty t e:TypeId} (O:E[0]? =some t) (U:P.underlying t=some (.slice e)) {x x':Value} (r:Array Value) (hx:VR μ x x') {J:Value→Prop} (V:r[0]? =some x') (h:Xho x J):
  ∃v,(Builtin.cap_ E ty r).run P w= .ok v w∧VR μ v v∧J v:=by
 unfold Xho at h
 split at h
 ·rename_i a k c
  split at h
  ·rename_i hc
   have: ∃I,x'= .slice I k c:=by
    cases hx with
    | nilslice=>exact ⟨_,rfl⟩
    | slx o n c I Q h2 Y Z=>exact ⟨_,rfl⟩
    | sll o j n c o' Q h2 Y Z h5=>omega
   obtain ⟨I,rfl⟩:=this
   refine ⟨_,?_,.int _ _,h⟩
   simp [Builtin.cap_,O,V,run_underlying U,goInt]
  ·exact h.elim
 ·exact h.elim
theorem Jf4 {b:Builtin} {vs:List Value} {cvs:Array Value} {j:Array TypeId} {ty:TypeId} {J:Value→Prop} (U:VRs μ vs cvs.toList) (h:ZeH P b vs j.toList J):
  ∃s:Array TypeId→TypeId→Array Value→Sem Value,(∀E args,builtin b j ty E args=(do pure (.value (←s j ty args))))∧ ∃v Z,(s j ty cvs).run P w= .ok Z w∧VR μ v Z∧J v:=by
 unfold ZeH at h
 split at h
 ·split at h
  ·rename_i x r t0 r2 ht
   split at h
   ·rename_i e hu
    have h0:j[0]? =some t0:=by
     have:j.toList[0]? =some t0:=by rw [ht];rfl
     simpa using this
    obtain ⟨x',I,Q⟩:=U.get 0 x rfl
    obtain ⟨v,O,Y,V⟩:=QgJ (P:=P) (w:=w) (ty:=ty) h0 hu cvs Q (by simpa using I) h
    exact ⟨Builtin.cap_,λ_ _=>rfl,v,v,O,Y,V⟩
   ·exact h.elim
  ·exact h.elim
 ·split at h
  ·rename_i x y t0 t1 ht
   split at h
   ·unfold Xh0 at h
    split at h
    case h_2=>exact h.elim
    rename_i k a k' b'
    obtain ⟨rfl,h⟩:=h
    have hc:cvs.toList=[.int k a,.int k b']:=by
     generalize cvs.toList=l at U
     cases U with
     | cons O Y=>
      cases O
      cases Y with
      | cons V h4=>cases V;cases h4;rfl
    refine ⟨Builtin.min_,λ_ _=>rfl,_,_,?_,.int _ _,h⟩
    simp [Builtin.min_,hc,Builtin.min2]
   ·exact h.elim
  ·exact h.elim
 ·exact h.elim
end
end Go.Proofs.YtmchcjaomcdbmaaGreat.Abs
