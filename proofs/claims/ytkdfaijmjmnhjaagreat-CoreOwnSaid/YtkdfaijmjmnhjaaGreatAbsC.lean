import Derived.ChangeOld
import Derived.Laws.LoneSync
import Derived.OpenShut
import Derived.ProofKit
import Derived.ShutString
import Derived.SizedLaws
import Derived.WalkKit
import Derived.Test.YtkdfaijmjmnhjaaGreatAbsB
/- An evaluator for closed runs, sound for the machine; how arguments come in. -/
set_option linter.all false
set_option linter.deprecated false
namespace Go.Proofs.YtkdfaijmjmnhjaaGreat.Abs
open Go Go.RowKit
def QbA (n:Nat) (k:Nat→Bool):Bool:=match n with
 | 0=>k 0
 | m+1=>k (m+1)
def QdM (i:Int) (k:Int→Bool):Bool:=match i with
 | .ofNat n=>QbA n fun n=>k (.ofNat n)
 | .negSucc n=>QbA n fun n=>k (.negSucc n)
def fB (b:Bool) (k:Bool→Bool):Bool:=match b with
 | true=>k true
 | false=>k false
def fV (v:Value) (k:Value→Bool):Bool:=match v with
 | .int kd i=>k (.int kd i)
 | .bool b=>k (.bool b)
 | .pointer a=>k (.pointer a)
 | .slice a m c=>k (.slice a m c)
 | v=>k v
def fVd (v:Value) (k:Value→Bool):Bool:=match v with
 | .int kd i=>QdM i fun i=>k (.int kd i)
 | .bool b=>fB b fun b=>k (.bool b)
 | .pointer (some ⟨l,o,none⟩)=>QbA l fun l=>QbA o fun o=>k (.pointer (some ⟨l,o,none⟩))
 | .slice (some ⟨l,o,none⟩) m c=>QbA l fun l=>QbA o fun o=>QbA m fun m=>QbA c fun c=>k (.slice (some ⟨l,o,none⟩) m c)
 | v=>k v
def fL:List Value→(List Value→Bool)→Bool
 | [],k=>k []
 | v::l,k=>fL l fun l=>k (v::l)
theorem JQ (n:Nat) (k:Nat→Bool):QbA n k=k n:=by cases n<;>rfl
theorem Qcy (n:Int) (k:Int→Bool):QdM n k=k n:=by cases n<;>simp [QdM,JQ]
theorem Zge (n:Bool) (k:Bool→Bool):fB n k=k n:=by cases n<;>rfl
theorem Qdd (v:Value) (k:Value→Bool):fV v k=k v:=by
 unfold fV;split<;>rfl
theorem Qfq (v:Value) (k:Value→Bool):fVd v k=k v:=by
 unfold fVd;split<;>simp [JQ,Qcy,Zge]
theorem Qde: ∀(l:List Value) (k:List Value→Bool),fL l k=k l
 | [],_=>rfl
 | v::l,k=>by simp only [fL];rw [Qde l]
inductive Tr where
 | nil
 | node (l:Tr) (b:Option Blk) (r:Tr)
def Tr.get:Tr→Nat→Option Blk
 | .nil,_=>none
 | .node l b r,i=>match Nat.beq i 0 with
  | true=>b
  | false=>match Nat.beq (i%2) 1 with
   | true=>l.get ((i-1)/2)
   | false=>r.get ((i-2)/2)
def Tr.setK:Nat→Tr→Nat→Option Blk→(Tr→Bool)→Bool
 | 0,_,_,_,_=>false
 | d+1,t,i,b,k=>match t with
  | .nil=>(match Nat.beq i 0 with
   | true=>k (.node .nil b .nil)
   | false=>match Nat.beq (i%2) 1 with
    | true=>QbA ((i-1)/2) fun j=>setK d .nil j b fun l=>k (.node l none .nil)
    | false=>QbA ((i-2)/2) fun j=>setK d .nil j b fun r=>k (.node .nil none r))
  | .node l b0 r=>match Nat.beq i 0 with
   | true=>k (.node l b r)
   | false=>match Nat.beq (i%2) 1 with
    | true=>QbA ((i-1)/2) fun j=>setK d l j b fun l=>k (.node l b0 r)
    | false=>QbA ((i-2)/2) fun j=>setK d r j b fun r=>k (.node l b0 r)
theorem Qfi (a b:Nat):Nat.beq a b=decide (a=b):=by
 cases hb:Nat.beq a b with
 | true=>simp [Nat.eq_of_beq_eq_true hb]
 | false=>simp [Nat.ne_of_beq_eq_false hb]
theorem Tr.setK_s: ∀(d:Nat) (t:Tr) (i:Nat) (b:Option Blk) (k:Tr→Bool),t.setK d i b k=true→ ∃t':Tr,t'.get=upd t.get i b∧k t'=true
 | 0,_,_,_,_,h=>by simp [setK] at h
 | d+1,t,i,b,k,h=>by
  have key: ∀(l:Tr) (b0:Option Blk) (r:Tr),(match Nat.beq i 0 with
   | true=>k (.node l b r)
   | false=>match Nat.beq (i%2) 1 with
    | true=>QbA ((i-1)/2) fun j=>setK d l j b fun l=>k (.node l b0 r)
    | false=>QbA ((i-2)/2) fun j=>setK d r j b fun r=>k (.node l b0 r))=true→ ∃t':Tr,t'.get=upd (Tr.node l b0 r).get i b∧k t'=true:=by
   clear h
   intro l b0 r h
   simp only [JQ,Qfi] at h
   split at h
   ·rename_i h0
    have h0:i=0:=by simpa using h0
    subst h0
    refine ⟨_,?_,h⟩
    funext j
    by_cases hj:j=0
    ·subst hj;rw [Xa];rfl
    ·rw [Qc _ _ hj];simp only [Tr.get,Qfi,decide_eq_false hj]
   ·rename_i h0
    have h0:i≠0:=by simpa using h0
    split at h
    ·rename_i h1
     have h1:i%2=1:=by simpa using h1
     obtain ⟨t',ht,hk⟩:=setK_s d _ _ _ _ h
     refine ⟨_,?_,hk⟩
     funext j
     by_cases hj:j=i
     ·subst hj;rw [Xa];simp only [Tr.get,Qfi,decide_eq_false h0,h1,decide_true,ht,Xa]
     ·rw [Qc _ _ hj]
      simp only [Tr.get,Qfi]
      by_cases j0:j=0
      ·simp [j0]
      ·simp only [decide_eq_false j0]
       by_cases j1:j%2=1
       ·simp only [decide_eq_true j1,ht]
        rw [Qc];omega
       ·simp only [decide_eq_false j1]
    ·rename_i h1
     have h1: ¬i%2=1:=by simpa using h1
     obtain ⟨t',ht,hk⟩:=setK_s d _ _ _ _ h
     refine ⟨_,?_,hk⟩
     funext j
     by_cases hj:j=i
     ·subst hj;rw [Xa];simp only [Tr.get,Qfi,decide_eq_false h0,decide_eq_false h1,ht,Xa]
     ·rw [Qc _ _ hj]
      simp only [Tr.get,Qfi]
      by_cases j0:j=0
      ·simp [j0]
      ·simp only [decide_eq_false j0]
       by_cases j1:j%2=1
       ·simp only [decide_eq_true j1]
       ·simp only [decide_eq_false j1,ht]
        rw [Qc];omega
  cases t with
  | nil=>
   obtain ⟨t',h1,h2⟩:=key .nil none .nil h
   refine ⟨t',?_,h2⟩
   rw [h1]
   congr 1
   funext j
   simp only [Tr.get]
   split<;>first|rfl|(split<;>rfl)
  | node l b0 r=>exact key l b0 r h
def Xdg (t:List Value):Env:=fun i=>t.getD i undef
def Qgf:List Value→Nat→Value→(List Value→Bool)→Bool
 | [],_,_,_=>false
 | _::l,0,v,k=>k (v::l)
 | x::l,i+1,v,k=>Qgf l i v fun l=>k (x::l)
theorem QfB: ∀(t:List Value) (i:Nat) (v:Value) (k:List Value→Bool),Qgf t i v k=true→i<t.length∧k (t.set i v)=true
 | [],_,_,_,h=>by simp [Qgf] at h
 | _::l,0,v,k,h=>⟨by simp,h⟩
 | x::l,i+1,v,k,h=>by
  obtain ⟨h1,h2⟩:=QfB l i v _ h
  exact ⟨by simp;omega,h2⟩
theorem Xgh (t:List Value) (i:Nat) (v:Value) (hi:i<t.length):Xdg (t.set i v)=put (Xdg t) (some i) v:=by
 funext j
 simp only [Xdg,put,List.getD_eq_getElem?_getD,List.getElem?_set]
 by_cases h:i=j
 ·subst h;simp [hi]
 ·rw [if_neg h,if_neg (fun e=>h e.symm)]
def Jgv (t:List Value) (d:Option Tmp) (v:Value) (k:List Value→Bool):Bool:=match d with
 | some i=>Qgf t i v k
 | none=>k t
theorem Zg0 {t:List Value} {d:Option Tmp} {v:Value} {k:List Value→Bool} (h:Jgv t d v k=true): ∃t',Xdg t'=put (Xdg t) d v∧t'.length=t.length∧k t'=true:=by
 cases d with
 | none=>exact ⟨t,rfl,rfl,h⟩
 | some i=>
  obtain ⟨h1,h2⟩:=QfB _ _ _ _ h
  exact ⟨_,Xgh _ _ _ h1,by simp,h2⟩
end Go.Proofs.YtkdfaijmjmnhjaaGreat.Abs
namespace Go.Proofs.YtkdfaijmjmnhjaaGreat.Abs
open Go Go.RowKit
variable {P:Program}
abbrev EK1:=Value→Bool
abbrev EC:=Value→Tr→Nat→Bool
def XaK:List UInt8→List UInt8→Bool
 | [],[]=>true
 | x::xs,y::ys=>Nat.beq x.toNat y.toNat&&XaK xs ys
 | _,_=>false
theorem Jb7: ∀{a b:List UInt8},XaK a b=true→a=b
 | [],[],_=>rfl
 | x::xs,y::ys,h=>by
  simp only [XaK,Qfi,Bool.and_eq_true,decide_eq_true_eq] at h
  rw [UInt8.toNat_inj.1 h.1,Jb7 h.2]
 | [],_::_,h=>by cases h
 | _::_,[],h=>by cases h
theorem JcT: ∀(a:List UInt8),XaK a a=true
 | []=>rfl
 | x::xs=>by simp only [XaK,Qfi,decide_true,Bool.true_and];exact JcT xs
def Qgz (v:Value) (k:Bool→Bool):Bool:=match v with| .bool b=>k b|_=>false
def Jgr (v:Value) (k:Int→Bool):Bool:=match v with| .int _ i=>k i|_=>false
def XgC (v:Value) (k:Nat→Nat→Bool):Bool:=match v with| .pointer (some ⟨l,o,none⟩)=>k l o|_=>false
def QgG (v:Value) (k:List Value→Bool):Bool:=match v with| .agg cs=>k cs.toList|_=>false
def QcS (h:Tr) (l:Nat) (k:List Value→BK→Bool):Bool:=match h.get l with|some (.cells cs b)=>k cs b|_=>false
def Xg3 (cs:List Value) (o:Nat) (k:EK1):Bool:=match cs[o]? with|some v=>k v|none=>false
def eLd (h:Tr) (l o:Nat) (k:EK1):Bool:=QcS h l fun cs _=>Xg3 cs o k
def Jhc (h:Tr) (l o z:Nat) (k:List Value→Bool):Bool:=QcS h l fun cs _=>decide (o+z≤cs.length)&&fL ((cs.drop o).take z) k
def eNew (cs:List Value) (b:BK) (h:Tr) (n:Nat) (k:Nat→Tr→Nat→Bool):Bool:=fL cs fun cs=>QbA (n+1) fun m=>h.setK 20 n (some (.cells cs b)) fun h=>k n h m
def eSt (h:Tr) (l o:Nat) (v:Value) (k:Tr→Bool):Bool:=QcS h l fun cs b=>b.rw&&(decide (o<cs.length)&&(isCell v&&fL (cs.set o v) fun cs=>h.setK 20 l (some (.cells cs b)) k))
def QgY (h:Tr) (l o:Nat) (vs:List Value) (k:Tr→Bool):Bool:=
 QcS h l fun cs b=>b.rw&&(decide (o+vs.length≤cs.length)&&(vs.all isCell&&fL (splice cs o vs) fun cs=>h.setK 20 l (some (.cells cs b)) k))
def Qek (op:BinOp) (k:IntKind) (a b:Int) (K:EK1):Bool:=
 match op with
 | .add=>QdM (k.wrap (a+b)) fun i=>K (.int k i)
 | .sub=>QdM (k.wrap (a-b)) fun i=>K (.int k i)
 | .mul=>QdM (k.wrap (a*b)) fun i=>K (.int k i)
 | .quo=> !(decide (b=0))&&QdM (k.wrap (a.tdiv b)) fun i=>K (.int k i)
 | .rem=> !(decide (b=0))&&QdM (a.tmod b) fun i=>K (.int k i)
 | .and=>QdM (k.wrap (BitVec.ofInt k.bits a &&& BitVec.ofInt k.bits b).toNat) fun i=>K (.int k i)
 | .or=>QdM (k.wrap (BitVec.ofInt k.bits a ||| BitVec.ofInt k.bits b).toNat) fun i=>K (.int k i)
 | .xor=>QdM (k.wrap (BitVec.ofInt k.bits a ^^^ BitVec.ofInt k.bits b).toNat) fun i=>K (.int k i)
 | .andNot=>QdM (k.wrap (BitVec.ofInt k.bits a &&& ~~~BitVec.ofInt k.bits b).toNat) fun i=>K (.int k i)
 | .eql=>fB (a==b) fun b=>K (.bool b)
 | .neq=>fB (a !=b) fun b=>K (.bool b)
 | .lss=>fB (decide (a<b)) fun b=>K (.bool b)
 | .leq=>fB (decide (a≤b)) fun b=>K (.bool b)
 | .gtr=>fB (decide (a>b)) fun b=>K (.bool b)
 | .geq=>fB (decide (a≥b)) fun b=>K (.bool b)
 | .shl=>decide (0≤b)&&QdM (k.wrap (a*2^(min b.toNat k.bits))) fun i=>K (.int k i)
 | .shr=>decide (0≤b)&&QdM (a.fdiv (2^(min b.toNat k.bits))) fun i=>K (.int k i)
def Jgq (op:BinOp) (r:Bool) (K:EK1):Bool:=
 match op with
 | .eql=>fB r fun r=>K (.bool r)
 | .neq=>fB (!r) fun r=>K (.bool r)
 | _=>false
def XgZ (op:BinOp) (k k':IntKind):Bool:=match op with| .shl| .shr=>true|_=>decide (k=k')
def Jhk (e:EK) (op:BinOp) (x y:Value) (K:EK1):Bool:=
 match e with
 | .int=>match x,y with
  | .int k a,.int k' b=>XgZ op k k'&&Qek op k a b K
  | _,_=>false
 | .bool=>match x,y with
  | .bool a,.bool b=>Jgq op (a==b) K
  | _,_=>false
 | .ptr=>match x,y with
  | .pointer none,.pointer q=>Jgq op q.isNone K
  | .pointer (some _),.pointer none=>Jgq op false K
  | _,_=>false
 | .slice=>match x,y with
  | .slice a _ _,.slice none _ _=>Jgq op a.isNone K
  | _,_=>false
 | .agg ks=>match x,y with
  | .agg xs,.agg ys=>match Jm ks xs.toList ys.toList with
   | some r=>Jgq op r K
   | none=>false
  | _,_=>false
 | .str=>match x,y with
  | .string a,.string b=>Jgq op (XaK a.data.toList b.data.toList) K
  | _,_=>false
 | .other=>false
def eUn (op:UnOp) (x:Value) (K:EK1):Bool:=
 match op,x with
 | .not,.bool b=>fB (!b) fun b=>K (.bool b)
 | .neg,.int k a=>QdM (k.wrap (0-a)) fun i=>K (.int k i)
 | _,_=>false
def XgN (dst:IntKind) (x:Value) (K:EK1):Bool:=match x with| .int _ a=>QdM (dst.wrap a) fun i=>K (.int dst i)|_=>false
def Xhj (x:Value) (K:EK1):Bool:=match x with
 | .pointer (some a)=>K (.pointer (some a))
 | .func (.func f) a b=>K (.func (.func f) a b)
 | .slice a n c=>K (.slice a n c)
 | .int k n=>K (.int k n)
 | .bool b=>K (.bool b)
 | _=>false
def Jdq (x:Value) (off:Nat) (K:EK1):Bool:=XgC x fun l o=>QbA (o+off) fun o=>K (ptr l o)
def Zcx (x i:Value) (z:Nat) (K:EK1):Bool:=
 match x,i with
 | .slice (some ⟨l,o,none⟩) len _,.int _ j=>decide (0≤j)&&(decide (j<len)&&QbA (o+j.toNat*z) fun o=>K (ptr l o))
 | _,_=>false
def ZcV (x i:Value) (len z:Nat) (K:EK1):Bool:=
 match x,i with
 | .pointer (some ⟨l,o,none⟩),.int _ j=>decide (0≤j)&&(decide (j<len)&&QbA (o+j.toNat*z) fun o=>K (ptr l o))
 | _,_=>false
def Jgg (cs:List Value) (off:Nat) (agg:Option Nat) (K:EK1):Bool:=
 match agg with
 | none=>Xg3 cs off K
 | some k=>decide (off+k≤cs.length)&&fL ((cs.drop off).take k) fun cs=>K (.agg cs.toArray)
def Jhq (x i:Value) (len z:Nat) (agg:Option Nat) (K:EK1):Bool:=
 QgG x fun cs=>Jgr i fun j=>decide (0≤j)&&(decide (j<len)&&Jgg cs (j.toNat*z) agg K)
def Jdy (x:Value) (i:Nat) (K:EK1):Bool:=match x with| .tuple vs=>Xg3 vs.toList i K|_=>false
def Zhf (x:Value) (K:EK1):Bool:=match x with| .slice _ n _=>K (.int .i64 n)|_=>false
def Jca (x:Option Value) (d m:Nat) (K:Nat→Bool):Bool:=
 match x with
 | none=>K d
 | some v=>Jgr v fun i=>decide (0≤i)&&(decide (i≤m)&&QbA i.toNat K)
def XfT (x:Value) (lo hi mx:Option Value) (z:Nat) (K:EK1):Bool:=
 match x with
 | .slice a len c=>
  bif decide (c<LC) then
   Jca mx c c fun m=>Jca hi len m fun h=>Jca lo 0 h fun l=>fVd (.slice (if m=l then a else a.map (·.add (l*z))) (h-l) (m-l)) K
  else
   decide (c=LC+z)&&match mx with
   | none=>Jca hi len len fun h=>Jca lo 0 h fun l=>fVd (.slice (a.map (·.add (l*z))) (h-l) (LC+z)) K
   | some mx=>Jca (some mx) 0 len fun m=>decide (m<LC)&&Jca hi 0 m fun h=>Jca lo 0 h fun l=>fVd (.slice (a.map (·.add (l*z))) (h-l) (m-l)) K
 | _=>false
def ZdX (h:Tr) (x:Value) (k z:Nat) (K:List Value→Bool):Bool:=
 match x with
 | .slice none _ _=>decide (k*z=0)&&K []
 | .slice (some ⟨l,o,none⟩) _ _=>bif decide (k*z=0) then K [] else Jhc h l o (k*z) K
 | _=>false
def Qep (s x:Value) (z bytes:Nat) (h:Tr) (n:Nat) (K:EC):Bool:=
 match s,x with
 | .slice base len c,.slice _ k _=>
  decide (bytes≤1048576)&&(decide ((len+k)*bytes≤140737488355328)&&(decide (len+k<140737488355328)&&ZdX h x k z fun new=>new.all isCell&&
  bif decide (c<LC) then
   bif decide (len+k≤c) then
    match base with
    | none=>new.isEmpty&&QbA (len+k) fun m=>K (.slice none m c) h n
    | some ⟨l,o,none⟩=>bif new.isEmpty then QbA (len+k) fun m=>K (.slice (some ⟨l,o,none⟩) m c) h n else QgY h l (o+len*z) new fun h=>QbA (len+k) fun m=>K (.slice (some ⟨l,o,none⟩) m c) h n
    | _=>false
   else ZdX h s len z fun old=>eNew (old++new) (.loose z) h n fun l h n=>QbA (len+k) fun m=>K (.slice (some ⟨l,0,none⟩) m (LC+z)) h n
  else match base with
   | some ⟨l,o,none⟩=>decide (c=LC+z)&&QcS h l fun cs bk=>(match bk with| .loose z'=>decide (z'=z)|_=>false)&&(decide (o+len*z≤cs.length)&&
     h.setK 20 l none fun h=>eNew (((cs.drop o).take (len*z))++new) (.loose z) h n fun l h n=>QbA (len+k) fun m=>K (.slice (some ⟨l,0,none⟩) m (LC+z)) h n)
   | _=>false))
 | _,_=>false
def JdI (s x:Value) (zero:List Value) (bytes:Nat) (h:Tr) (n:Nat) (K:EC):Bool:=
 match s,x with
 | .slice none 0 0,.int .i64 a=>decide (0<zero.length)&&(decide (0<a)&&(decide (a<1099511627776)&&(decide (a.toNat*bytes≤1099511627776)&&
  eNew (reps a.toNat zero) (.loose zero.length) h n fun l h n=>QbA a.toNat fun m=>K (.slice (some ⟨l,0,none⟩) m (LC+zero.length)) h n)))
 | _,_=>false
def Xgx (d s:Value) (z:Nat) (h:Tr) (K:Value→Tr→Bool):Bool:=
 match d,s with
 | .slice base len _,.slice _ k _=>ZdX h s (min k len) z fun new=>new.all isCell&&
  match base with
  | none=>QbA (min k len) fun m=>K (.int .i64 (m:Nat)) h
  | some ⟨l,o,none⟩=>bif new.isEmpty then QbA (min k len) fun m=>K (.int .i64 (m:Nat)) h else QgY h l o new fun h=>QbA (min k len) fun m=>K (.int .i64 (m:Nat)) h
  | _=>false
 | _,_=>false
def Zfr (x:Value) (zero:List Value) (h:Tr) (K:Value→Tr→Bool):Bool:=
 match x with
 | .slice none _ _=>K undef h
 | .slice (some ⟨l,o,none⟩) len _=>bif decide (len=0)||zero.isEmpty then K undef h else QgY h l o (reps len zero) fun h=>K undef h
 | _=>false
def Zg4 (len cap:Value) (zero:List Value) (bytes:Nat) (h:Tr) (n:Nat) (K:EC):Bool:=
 Jgr len fun a=>Jgr cap fun c=>decide (0≤a)&&(decide (a≤c)&&(decide (c*bytes≤1099511627776)&&(decide (c≤1099511627776)&&
  eNew (reps c.toNat zero) .exact h n fun l h n=>QbA a.toNat fun a=>QbA c.toNat fun c=>K (.slice (some ⟨l,0,none⟩) a c) h n)))
def Xeh (cs:List Value):List (Nat×Option Nat×Value)→(List Value→Bool)→Bool
 | [],K=>K cs
 |(off,none,v)::r,K=>isCell v&&(decide (off<cs.length)&&Xeh (cs.set off v) r K)
 |(off,some k,v)::r,K=>QgG v fun vs=>decide (vs.length=k)&&(decide (off+k≤cs.length)&&Xeh (splice cs off vs) r K)
abbrev EM:=List (Value×Value)
def fP:EM→(EM→Bool)→Bool
 | [],k=>k []
 | e::l,k=>fP l fun l=>k (e::l)
theorem Qg6: ∀(l:EM) (k:EM→Bool),fP l k=k l
 | [],_=>rfl
 | v::l,k=>by simp only [fP];rw [Qg6 l]
def Zgs (h:Tr) (l:Nat) (k:EM→Bool):Bool:=match h.get l with|some (.map es)=>k es|_=>false
def Jg0 (kk:IntKind) (key:Value) (K:Int→Bool):Bool:=match key with| .int k a=>decide (k=kk)&&K a|_=>false
def Qfz (kk:IntKind) (a:Int) (es:EM) (K:Option Nat→Bool):Bool:=match JdL kk a es 0 with|some r=>K r|none=>false
def eAt (es:EM) (i:Nat) (K:Value×Value→Bool):Bool:=match es[i]? with|some e=>K e|none=>false
def ZfU (b:Blk) (h:Tr) (n:Nat) (K:Nat→Tr→Nat→Bool):Bool:=QbA (n+1) fun m=>h.setK 20 n (some b) fun h=>K n h m
def Qei (h:Tr) (l:Nat) (es:EM) (K:Tr→Bool):Bool:=fP es fun es=>h.setK 20 l (some (.map es)) K
def ZfK (kk:IntKind) (x ix z:Value) (ok:Bool) (h:Tr) (K:EK1):Bool:=
 Jg0 kk ix fun a=>match x with
 | .map none=>K (match ok with|true=> .tuple #[z,.bool false]|false=>z)
 | .map (some l)=>Zgs h l fun es=>Qfz kk a es fun r=>match r with
  | some i=>eAt es i fun e=>K (match ok with|true=> .tuple #[e.2,.bool true]|false=>e.2)
  | none=>K (match ok with|true=> .tuple #[z,.bool false]|false=>z)
 | _=>false
def Qfm (kk:IntKind) (m key x:Value) (h:Tr) (K:Tr→Bool):Bool:=
 Jg0 kk key fun a=>match m with
 | .map (some l)=>Zgs h l fun es=>Qfz kk a es fun r=>match r with
  | some i=>Qei h l (es.set i (.int kk a,x)) K
  | none=>Qei h l (es++[(.int kk a,x)]) K
 | _=>false
def QdT (kk:IntKind) (m key z:Value) (h:Tr) (K:Value→Tr→Bool):Bool:=
 Jg0 kk key fun a=>match m with
 | .map (some l)=>Zgs h l fun es=>Qfz kk a es fun r=>match r with
  | some i=>eAt es i fun e=>Qei h l (es.set i (.int kk a,e.2)) fun h=>K (.tuple #[e.2,.int .i64 i]) h
  | none=>Qei h l (es++[(.int kk a,z)]) fun h=>K (.tuple #[z,.int .i64 es.length]) h
 | _=>false
def Zc4 (m s x:Value) (h:Tr) (K:Tr→Bool):Bool:=
 Jgr s fun j=>match m with
 | .map (some l)=>Zgs h l fun es=>decide (0≤j)&&eAt es j.toNat fun e=>Qei h l (es.set j.toNat (e.1,x)) K
 | _=>false
def Jfl (x:Value) (h:Tr) (n:Nat) (K:Nat→Tr→Nat→Bool):Bool:=
 match x with
 | .map (some l)=>Zgs h l fun es=>QbA es.length fun c=>ZfU (.iter l c []) h n K
 | _=>false
def Xf4 (it:Value) (h:Tr) (K:Nat→Nat→EM→List Nat→Bool):Bool:=
 match it with
 | .pointer (some ⟨p,0,none⟩)=>match h.get p with
  | some (.iter l cnt seen)=>Zgs h l fun es=>decide (es.length=cnt)&&K p l es seen
  | _=>false
 | _=>false
def Zf1 (F:Nat→Value×Value→Bool) (seen:List Nat):Nat→EM→Bool
 | _,[]=>true
 | i,e::es=>(bif seen.contains i then true else F i e)&&Zf1 F seen (i+1) es
def Zg2 (it:Value) (h:Tr) (K:Value→Tr→Bool):Bool:=
 Xf4 it h fun p l es seen=>(bif (List.range es.length).all seen.contains then K (.tuple #[.bool false]) h else true)&&
  Zf1 (fun i kv=>QbA i fun i=>h.setK 20 p (some (.iter l es.length (seen++[i]))) fun h=>K (.tuple #[.bool true,kv.1,kv.2]) h) seen 0 es
def Qgn (it:Value) (h:Tr) (K:EK1):Bool:=
 Xf4 it h fun _ _ es seen=>match seen.getLast? with
 | some i=>eAt es i fun kv=>K (.tuple #[kv.1,kv.2])
 | none=>false
def Qhj (x:Value) (K:EK1):Bool:=match x with| .slice _ _ c=>(bif decide (c<LC) then K (.int .i64 (c:Nat)) else false)|_=>false
def QgN (x:Value) (K:EK1):Bool:=match x with| .string s=>QbA s.size fun m=>K (.int .i64 (m:Nat))|_=>false
def JgR (x i:Value) (K:EK1):Bool:=
 match x,i with
 | .string s,.int _ j=>decide (0≤j)&&(match s[j.toNat]? with|some b=>QbA b.toNat fun m=>K (.int .u8 (m:Nat))|none=>false)
 | _,_=>false
section
variable {h:Tr} {n:Nat}
theorem JgP {v:Value} {k:Bool→Bool} {K:Bool→Prop} (hk: ∀b,k b=true→K b) (e:Qgz v k=true):Xbe v K:=by
 unfold Qgz at e;unfold Xbe;split at e<;>first|exact hk _ e|cases e
theorem Jdp {v:Value} {k:Int→Bool} {K:Int→Prop} (hk: ∀b,k b=true→K b) (e:Jgr v k=true):JeD v K:=by
 unfold Jgr at e;unfold JeD;split at e<;>first|exact hk _ e|cases e
theorem QdV {v:Value} {k:Nat→Nat→Bool} {K:Nat→Nat→Prop} (hk: ∀l o,k l o=true→K l o) (e:XgC v k=true):Qd v K:=by
 unfold XgC at e;unfold Qd;split at e<;>first|exact hk _ _ e|cases e
theorem QdU {v:Value} {k:List Value→Bool} {K:List Value→Prop} (hk: ∀b,k b=true→K b) (e:QgG v k=true):Zn v K:=by
 unfold QgG at e;unfold Zn;split at e<;>first|exact hk _ e|cases e
theorem Jcf {l:Nat} {k:List Value→BK→Bool} {K:List Value→BK→Prop} (hk: ∀c b,k c b=true→K c b) (e:QcS h l k=true):XaD h.get l K:=by
 unfold QcS at e;unfold XaD;split at e
 ·rename_i cs b hg;rw [hg];exact hk _ _ e
 ·cases e
theorem Jfq {cs:List Value} {o:Nat} {k:EK1} {K:Value→Prop} (hk: ∀b,k b=true→K b) (e:Xg3 cs o k=true):JdC cs o K:=by
 unfold Xg3 at e;unfold JdC;split at e
 ·rename_i v hg;rw [hg];exact hk _ e
 ·cases e
theorem Jej {l o:Nat} {k:EK1} {K:Value→Prop} (hk: ∀b,k b=true→K b) (e:eLd h l o k=true):kLd h.get l o K:=Jcf (fun _ _=>Jfq hk) e
theorem Xfo {l o z:Nat} {k:List Value→Bool} {K:List Value→Prop} (hk: ∀b,k b=true→K b) (e:Jhc h l o z k=true):Zo h.get l o z K:=
 Jcf (fun _ _ e=>by simp only [Bool.and_eq_true,decide_eq_true_eq,Qde] at e;exact ⟨e.1,hk _ e.2⟩) e
theorem ZcA {cs:List Value} {b:BK} {k:Nat→Tr→Nat→Bool} {K:Nat→G→Nat→Prop} (hk: ∀l h n,k l h n=true→K l h.get n) (e:eNew cs b h n k=true):Zq cs b h.get n K:=by
 intro _
 simp only [eNew,Qde,JQ] at e
 obtain ⟨t,ht,e⟩:=Tr.setK_s _ _ _ _ _ e
 rw [←ht];exact hk _ _ _ e
theorem Xe2 {l o:Nat} {v:Value} {k:Tr→Bool} {K:G→Prop} (hk: ∀h,k h=true→K h.get) (e:eSt h l o v k=true):kSt h.get l o v K:=
 Jcf (fun cs b e=>by
  simp only [Bool.and_eq_true,decide_eq_true_eq,Qde] at e
  obtain ⟨e1,e2,e3,e⟩:=e
  obtain ⟨t,ht,e⟩:=Tr.setK_s _ _ _ _ _ e
  exact ⟨e1,e2,e3,by rw [←ht];exact hk _ e⟩) e
theorem Jey {l o:Nat} {vs:List Value} {k:Tr→Bool} {K:G→Prop} (hk: ∀h,k h=true→K h.get) (e:QgY h l o vs k=true):Xu h.get l o vs K:=
 Jcf (fun cs b e=>by
  simp only [Bool.and_eq_true,decide_eq_true_eq,Qde] at e
  obtain ⟨e1,e2,e3,e⟩:=e
  obtain ⟨t,ht,e⟩:=Tr.setK_s _ _ _ _ _ e
  exact ⟨e1,e2,List.all_eq_true.1 e3,by rw [←ht];exact hk _ e⟩) e
theorem Qfx {op:BinOp} {kd:IntKind} {a b:Int} {k:EK1} {K:Value→Prop} (hk: ∀b,k b=true→K b) (e:Qek op kd a b k=true):JE op kd a b K:=by
 cases op<;>simp only [Qek,Qcy,Zge,Bool.and_eq_true,Bool.not_eq_true',decide_eq_false_iff_not,decide_eq_true_eq] at e<;>simp only [JE]<;>
  first|exact hk _ e|exact ⟨e.1,hk _ e.2⟩
theorem Jdu {op:BinOp} {r:Bool} {k:EK1} {K:Value→Prop} (hk: ∀b,k b=true→K b) (e:Jgq op r k=true):XdM op r K:=by
 cases op<;>simp only [Jgq,Zge] at e<;>simp only [XdM]<;>first|exact hk _ e|cases e
theorem Xha {ek:EK} {op:BinOp} {x y:Value} {k:EK1} {K:Value→Prop} (hk: ∀b,k b=true→K b) (e:Jhk ek op x y k=true):Jb ek op x y K:=by
 unfold Jhk at e;unfold Jb
 split at e
 ·split at e
  ·simp only [Bool.and_eq_true] at e
   refine ⟨?_,Qfx hk e.2⟩
   have e:=e.1
   cases op<;>simp only [XgZ,decide_eq_true_eq] at e<;>first|exact e|trivial
  ·cases e
 ·split at e
  ·exact Jdu hk e
  ·cases e
 ·split at e
  ·exact Jdu hk e
  ·exact Jdu hk e
  ·cases e
 ·split at e
  ·exact Jdu hk e
  ·cases e
 ·split at e
  ·split at e
   ·rename_i hl;simp only [hl];exact Jdu hk e
   ·cases e
  ·cases e
 ·split at e
  ·rename_i a b
   have:XaK a.data.toList b.data.toList=(a==b):=by
    rw [Bool.eq_iff_iff,MapKept.bytes_beq]
    constructor
    ·intro h
     have:=Jb7 h
     cases a;cases b
     simp only at this
     congr 1
     exact Array.ext' this
    ·rintro rfl;exact JcT _
   rw [this] at e
   exact Jdu hk e
  ·cases e
 ·cases e
theorem Jhg {op:UnOp} {x:Value} {k:EK1} {K:Value→Prop} (hk: ∀b,k b=true→K b) (e:eUn op x k=true):kUn op x K:=by
 unfold eUn at e;unfold kUn
 split at e
 ·rw [Zge] at e;exact hk _ e
 ·rw [Qcy] at e;exact hk _ e
 ·cases e
theorem JgG {d:IntKind} {x:Value} {k:EK1} {K:Value→Prop} (hk: ∀b,k b=true→K b) (e:XgN d x k=true):Qao d x K:=by
 unfold XgN at e;unfold Qao
 split at e
 ·rw [Qcy] at e;exact hk _ e
 ·cases e
theorem Xg4 {x:Value} {k:EK1} {K:Value→Prop} (hk: ∀b,k b=true→K b) (e:Xhj x k=true):Jg x K:=by
 unfold Xhj at e;unfold Jg
 split at e<;>first|exact hk _ e|cases e
theorem ZdW {x:Value} {off:Nat} {k:EK1} {K:Value→Prop} (hk: ∀b,k b=true→K b) (e:Jdq x off k=true):JaG x off K:=
 QdV (fun l o e=>by rw [JQ] at e;exact hk _ e) e
theorem Jea {x i:Value} {z:Nat} {k:EK1} {K:Value→Prop} (hk: ∀b,k b=true→K b) (e:Zcx x i z k=true):Xd x i z K:=by
 unfold Zcx at e;unfold Xd
 split at e
 ·simp only [Bool.and_eq_true,decide_eq_true_eq,JQ] at e;exact ⟨e.1,e.2.1,hk _ e.2.2⟩
 ·cases e
theorem Qef {x i:Value} {len z:Nat} {k:EK1} {K:Value→Prop} (hk: ∀b,k b=true→K b) (e:ZcV x i len z k=true):Ji x i len z K:=by
 unfold ZcV at e;unfold Ji
 split at e
 ·simp only [Bool.and_eq_true,decide_eq_true_eq,JQ] at e;exact ⟨e.1,e.2.1,hk _ e.2.2⟩
 ·cases e
theorem XfA {cs:List Value} {off:Nat} {a:Option Nat} {k:EK1} {K:Value→Prop} (hk: ∀b,k b=true→K b) (e:Jgg cs off a k=true):Xby cs off a K:=by
 cases a with
 | none=>exact Jfq hk e
 | some z=>simp only [Jgg,Bool.and_eq_true,decide_eq_true_eq,Qde] at e;exact ⟨e.1,hk _ e.2⟩
theorem Xg9 {x i:Value} {len z:Nat} {a:Option Nat} {k:EK1} {K:Value→Prop} (hk: ∀b,k b=true→K b) (e:Jhq x i len z a k=true):ZdB x i len z a K:=
 QdU (fun _=>Jdp fun _ e=>by simp only [Bool.and_eq_true,decide_eq_true_eq] at e;exact ⟨e.1,e.2.1,XfA hk e.2.2⟩) e
theorem Ze3 {x:Value} {i:Nat} {k:EK1} {K:Value→Prop} (hk: ∀b,k b=true→K b) (e:Jdy x i k=true):Xc x i K:=by
 unfold Jdy at e;unfold Xc;split at e<;>first|exact Jfq hk e|cases e
theorem Xg1 {x:Value} {k:EK1} {K:Value→Prop} (hk: ∀b,k b=true→K b) (e:Zhf x k=true):Jaw x K:=by
 unfold Zhf at e;unfold Jaw;split at e<;>first|exact hk _ e|cases e
theorem Qa4 {x:Option Value} {d m:Nat} {k:Nat→Bool} {K:Nat→Prop} (hk: ∀b,k b=true→K b) (e:Jca x d m k=true):JR x d m K:=by
 cases x with
 | none=>exact hk _ e
 | some v=>exact Jdp (fun _ e=>by simp only [Bool.and_eq_true,decide_eq_true_eq,JQ] at e;exact ⟨e.1,e.2.1,hk _ e.2.2⟩) e
theorem Jgk {x:Value} {lo hi mx:Option Value} {z:Nat} {k:EK1} {K:Value→Prop} (hk: ∀b,k b=true→K b) (e:XfT x lo hi mx z k=true):QA x lo hi mx z K:=by
 unfold XfT at e;unfold QA
 split at e
 ·rename_i a len c
  by_cases hc:c<LC
  ·simp only [decide_eq_true hc,cond_true] at e
   simp only [if_pos hc]
   exact Qa4 (fun _=>Qa4 fun _=>Qa4 fun _ e=>hk _ (by rw [Qfq] at e;exact e)) e
  ·simp only [decide_eq_false hc,cond_false,Bool.and_eq_true,decide_eq_true_eq] at e
   simp only [if_neg hc]
   refine ⟨e.1,?_⟩
   have e:=e.2
   cases mx with
   | none=>exact Qa4 (fun _=>Qa4 fun _ e=>hk _ (by rw [Qfq] at e;exact e)) e
   | some mx=>exact Qa4 (fun _ e=>by
     simp only [Bool.and_eq_true,decide_eq_true_eq] at e
     exact ⟨e.1,Qa4 (fun _=>Qa4 fun _ e=>hk _ (by rw [Qfq] at e;exact e)) e.2⟩) e
 ·cases e
theorem Xdz {x:Value} {m z:Nat} {k:List Value→Bool} {K:List Value→Prop} (hk: ∀b,k b=true→K b) (e:ZdX h x m z k=true):Qai h.get x m z K:=by
 unfold ZdX at e;unfold Qai
 split at e
 ·simp only [Bool.and_eq_true,decide_eq_true_eq] at e;exact ⟨e.1,hk _ e.2⟩
 ·by_cases hc:m*z=0
  ·simp only [decide_eq_true hc,cond_true] at e;simp only [if_pos hc];exact hk _ e
  ·simp only [decide_eq_false hc,cond_false] at e;simp only [if_neg hc];exact Xfo hk e
 ·cases e
theorem Xfk {α:Type} {l:List α} (e:l.isEmpty=true):l=[]:=by simpa using e
theorem ZeR {s x:Value} {z:List Value} {bytes:Nat} {k:EC} {K:Cont} (hk: ∀v h n,k v h n=true→K v h.get n) (e:JdI s x z bytes h n k=true):Za4 s x z bytes h.get n K:=by
 unfold JdI at e;unfold Za4
 split at e
 ·simp only [Bool.and_eq_true,decide_eq_true_eq,JQ] at e
  exact ⟨e.1,e.2.1,e.2.2.1,e.2.2.2.1,ZcA (fun l h n e=>hk _ _ _ e) e.2.2.2.2⟩
 ·cases e
theorem ZfO {s x:Value} {z bytes:Nat} {k:EC} {K:Cont} (hk: ∀v h n,k v h n=true→K v h.get n) (e:Qep s x z bytes h n k=true):Zt s x z bytes h.get n K:=by
 unfold Qep at e;unfold Zt
 split at e
 ·rename_i base len c ax m cx
  simp only [Bool.and_eq_true,decide_eq_true_eq] at e
  obtain ⟨e1,e2,e3,e⟩:=e
  refine ⟨e1,e2,e3,Xdz (fun new e=> ?_) e⟩
  simp only [Bool.and_eq_true] at e
  refine ⟨List.all_eq_true.1 e.1,?_⟩
  have e:=e.2
  by_cases hc:c<LC
  ·simp only [decide_eq_true hc,cond_true] at e
   simp only [if_pos hc]
   by_cases hc2:len+m≤c
   ·simp only [decide_eq_true hc2,cond_true] at e
    simp only [if_pos hc2]
    split at e
    ·simp only [Bool.and_eq_true,JQ] at e;exact ⟨Xfk e.1,hk _ _ _ e.2⟩
    ·by_cases hn:new=[]
     ·subst hn;simp only [List.isEmpty_nil,cond_true,JQ] at e;simp only [if_true];exact hk _ _ _ e
     ·have:new.isEmpty=false:=by simpa using hn
      simp only [this,cond_false,JQ] at e
      simp only [if_neg hn]
      exact Jey (fun h e=>hk _ _ _ e) e
    ·cases e
   ·simp only [decide_eq_false hc2,cond_false] at e
    simp only [if_neg hc2]
    exact Xdz (fun old e=>ZcA (fun l h n e=>hk _ _ _ (by rw [JQ] at e;exact e)) e) e
  ·simp only [decide_eq_false hc,cond_false] at e
   simp only [if_neg hc]
   split at e
   ·simp only [Bool.and_eq_true,decide_eq_true_eq] at e
    rename_i l o _ _
    refine ⟨e.1,Jcf (fun cs bk e=> ?_) e.2⟩
    simp only [Bool.and_eq_true,decide_eq_true_eq] at e
    obtain ⟨e1,e2,e⟩:=e
    refine ⟨by cases bk<;>simp at e1 ⊢;exact e1,e2,?_⟩
    obtain ⟨t,ht,e⟩:=Tr.setK_s _ _ _ _ _ e
    intro hn
    have:=ZcA (K:=fun l g n=>K (.slice (some ⟨l,0,none⟩) _ (LC+z)) g n) (fun l h n e=>hk _ _ _ (by rw [JQ] at e;exact e)) e
    rw [ht] at this
    refine this ?_
    by_cases hl:n=l
    ·rw [hl,Xa]
    ·rw [Qc _ _ hl];exact hn
   ·cases e
 ·cases e
theorem XgF {d s:Value} {z:Nat} {k:Value→Tr→Bool} {K:Value→G→Prop} (hk: ∀v h,k v h=true→K v h.get) (e:Xgx d s z h k=true):XbJ d s z h.get K:=by
 unfold Xgx at e;unfold XbJ
 split at e
 ·refine Xdz (fun new e=> ?_) e
  simp only [Bool.and_eq_true] at e
  refine ⟨List.all_eq_true.1 e.1,?_⟩
  have e:=e.2
  split at e
  ·rw [JQ] at e;exact hk _ _ e
  ·by_cases hn:new=[]
   ·subst hn;simp only [List.isEmpty_nil,cond_true,JQ] at e;simp only [if_true];exact hk _ _ e
   ·have:new.isEmpty=false:=by simpa using hn
    simp only [this,cond_false,JQ] at e
    simp only [if_neg hn]
    exact Jey (fun h e=>hk _ _ e) e
  ·cases e
 ·cases e
theorem Jgj {x:Value} {zero:List Value} {k:Value→Tr→Bool} {K:Value→G→Prop} (hk: ∀v h,k v h=true→K v h.get) (e:Zfr x zero h k=true):QaJ x zero h.get K:=by
 unfold Zfr at e;unfold QaJ
 split at e
 ·exact hk _ _ e
 ·rename_i l o len c
  by_cases hn:len=0∨zero=[]
  ·have:(decide (len=0)||zero.isEmpty)=true:=by simpa using hn
   simp only [this,cond_true] at e
   simp only [if_pos hn];exact hk _ _ e
  ·have:(decide (len=0)||zero.isEmpty)=false:=by
    rw [Bool.eq_false_iff];intro h;exact hn (by simpa using h)
   simp only [this,cond_false] at e
   simp only [if_neg hn];exact Jey (fun h e=>hk _ _ e) e
 ·cases e
theorem QgD {len cap:Value} {zero:List Value} {bytes:Nat} {k:EC} {K:Cont} (hk: ∀v h n,k v h n=true→K v h.get n) (e:Zg4 len cap zero bytes h n k=true):JbS len cap zero bytes h.get n K:=
 Jdp (fun a=>Jdp fun c e=>by
  simp only [Bool.and_eq_true,decide_eq_true_eq] at e
  exact ⟨e.1,e.2.1,e.2.2.1,e.2.2.2.1,ZcA (fun l h n e=>hk _ _ _ (by simpa only [JQ] using e)) e.2.2.2.2⟩) e
theorem QcR: ∀{l:List (Nat×Option Nat×Value)} {cs:List Value} {k:List Value→Bool} {K:List Value→Prop},(∀l,k l=true→K l)→Xeh cs l k=true→Xf cs l K
 | [],cs,k,K,hk,e=>hk _ e
 |(off,none,v)::r,cs,k,K,hk,e=>by
  simp only [Xeh,Bool.and_eq_true,decide_eq_true_eq] at e
  exact ⟨e.1,e.2.1,QcR hk e.2.2⟩
 |(off,some z,v)::r,cs,k,K,hk,e=>QdU (fun _ e=>by
  simp only [Bool.and_eq_true,decide_eq_true_eq] at e
  exact ⟨e.1,e.2.1,QcR hk e.2.2⟩) e
theorem Qdl {l:Nat} {k:EM→Bool} {K:EM→Prop} (hk: ∀b,k b=true→K b) (e:Zgs h l k=true):ZdZ h.get l K:=by
 unfold Zgs at e;unfold ZdZ;split at e
 ·rename_i es hg;rw [hg];exact hk _ e
 ·cases e
theorem Jfy {kk:IntKind} {v:Value} {k:Int→Bool} {K:Int→Prop} (hk: ∀b,k b=true→K b) (e:Jg0 kk v k=true):JfV kk v K:=by
 unfold Jg0 at e;unfold JfV;split at e
 ·simp only [Bool.and_eq_true,decide_eq_true_eq] at e;exact ⟨e.1,hk _ e.2⟩
 ·cases e
theorem Xef {kk:IntKind} {a:Int} {es:EM} {k:Option Nat→Bool} {K:Option Nat→Prop} (hk: ∀b,k b=true→K b) (e:Qfz kk a es k=true):Xcf kk a es K:=by
 unfold Qfz at e;unfold Xcf;split at e
 ·rename_i r hr;rw [hr];exact hk _ e
 ·cases e
theorem Zgg {es:EM} {i:Nat} {k:Value×Value→Bool} {K:Value×Value→Prop} (hk: ∀b,k b=true→K b) (e:eAt es i k=true):kAt es i K:=by
 unfold eAt at e;unfold kAt;split at e
 ·rename_i r hr;rw [hr];exact hk _ e
 ·cases e
theorem Qed {b:Blk} {k:Nat→Tr→Nat→Bool} {K:Nat→G→Nat→Prop} (hk: ∀l h n,k l h n=true→K l h.get n) (e:ZfU b h n k=true):XdW b h.get n K:=by
 intro _
 simp only [ZfU,JQ] at e
 obtain ⟨t,ht,e⟩:=Tr.setK_s _ _ _ _ _ e
 rw [←ht];exact hk _ _ _ e
theorem Jdb {l:Nat} {es:EM} {k:Tr→Bool} {K:G→Prop} (hk: ∀h,k h=true→K h.get) (e:Qei h l es k=true):K (upd h.get l (some (.map es))):=by
 simp only [Qei,Qg6] at e
 obtain ⟨t,ht,e⟩:=Tr.setK_s _ _ _ _ _ e
 rw [←ht];exact hk _ e
theorem QfJ {kk:IntKind} {x i z:Value} {ok:Bool} {k:EK1} {K:Value→Prop} (hk: ∀b,k b=true→K b) (e:ZfK kk x i z ok h k=true):XbA kk x i z ok h.get K:=by
 refine Jfy (fun a e=> ?_) e
 split at e
 ·exact hk _ e
 ·refine Qdl (fun es=>Xef fun r e=> ?_) e
  cases r with
  | some i=>exact Zgg (fun _=>hk _) e
  | none=>exact hk _ e
 ·cases e
theorem Zd8 {kk:IntKind} {x i z:Value} {k:Tr→Bool} {K:G→Prop} (hk: ∀h,k h=true→K h.get) (e:Qfm kk x i z h k=true):ZaF kk x i z h.get K:=by
 refine Jfy (fun a e=> ?_) e
 split at e
 ·refine Qdl (fun es=>Xef fun r e=> ?_) e
  cases r with
  | some i=>exact Jdb hk e
  | none=>exact Jdb hk e
 ·cases e
theorem Qem {kk:IntKind} {x i z:Value} {k:Value→Tr→Bool} {K:Value→G→Prop} (hk: ∀v h,k v h=true→K v h.get) (e:QdT kk x i z h k=true):ZbF kk x i z h.get K:=by
 refine Jfy (fun a e=> ?_) e
 split at e
 ·refine Qdl (fun es=>Xef fun r e=> ?_) e
  cases r with
  | some i=>exact Zgg (fun e'=>Jdb (K:=fun g=>K _ g) (hk _)) e
  | none=>exact Jdb (K:=fun g=>K _ g) (hk _) e
 ·cases e
theorem Zdz {x i z:Value} {k:Tr→Bool} {K:G→Prop} (hk: ∀h,k h=true→K h.get) (e:Zc4 x i z h k=true):JaZ x i z h.get K:=by
 refine Jdp (fun a e=> ?_) e
 split at e
 ·refine Qdl (fun es e=> ?_) e
  simp only [Bool.and_eq_true,decide_eq_true_eq] at e
  exact ⟨e.1,Zgg (fun _=>Jdb hk) e.2⟩
 ·cases e
theorem Qf6 {x:Value} {k:Nat→Tr→Nat→Bool} {K:Nat→G→Nat→Prop} (hk: ∀l h n,k l h n=true→K l h.get n) (e:Jfl x h n k=true):QcC x h.get n K:=by
 unfold Jfl at e;unfold QcC
 split at e
 ·exact Qdl (fun es e=>by rw [JQ] at e;exact Qed hk e) e
 ·cases e
theorem XfG {x:Value} {k:Nat→Nat→EM→List Nat→Bool} {K:Nat→Nat→EM→List Nat→Prop} (hk: ∀p l e s,k p l e s=true→K p l e s) (e:Xf4 x h k=true):XdH x h.get K:=by
 unfold Xf4 at e;unfold XdH
 split at e
 ·split at e
  ·rename_i hg
   simp only [hg]
   exact Qdl (fun es e=>by simp only [Bool.and_eq_true,decide_eq_true_eq] at e;exact ⟨e.1,hk _ _ _ _ e.2⟩) e
  ·cases e
 ·cases e
theorem JfP {F:Nat→Value×Value→Bool} {seen:List Nat}: ∀(es:EM) (i:Nat),Zf1 F seen i es=true→ ∀(j:Nat) (kv:Value×Value),es[j]? =some kv→i+j∉seen→F (i+j) kv=true
 | [],_,_,j,kv,hj,_=>by simp at hj
 | e::es,i,h,j,kv,hj,hn=>by
  simp only [Zf1,Bool.and_eq_true] at h
  cases j with
  | zero=>
   simp at hj;subst hj
   have h1:=h.1
   have:seen.contains i=false:=by simpa using hn
   rw [this] at h1
   exact h1
  | succ j=>
   have:=JfP es (i+1) h.2 j kv (by simpa using hj) (by rw [show i+1+j=i+(j+1) by omega];exact hn)
   rw [show i+1+j=i+(j+1) by omega] at this
   exact this
theorem QgJ {x:Value} {k:Value→Tr→Bool} {K:Value→G→Prop} (hk: ∀v h,k v h=true→K v h.get) (e:Zg2 x h k=true):JfE x h.get K:=by
 refine XfG (fun p l es seen e=> ?_) e
 simp only [Bool.and_eq_true] at e
 refine ⟨fun hall=> ?_,fun i kv hn hi=> ?_⟩
 ·have h1:=e.1
  have:(List.range es.length).all seen.contains=true:=by
   rw [List.all_eq_true];intro i hi
   have:=hall i (List.mem_range.1 hi)
   simpa using this
  rw [this] at h1
  exact hk _ _ h1
 ·have:=JfP es 0 e.2 i kv hi (by simpa using hn)
  simp only [Nat.zero_add,JQ] at this
  obtain ⟨t,ht,e⟩:=Tr.setK_s _ _ _ _ _ this
  rw [←ht];exact hk _ _ e
theorem Qf8 {x:Value} {k:EK1} {K:Value→Prop} (hk: ∀b,k b=true→K b) (e:Qgn x h k=true):QdX x h.get K:=by
 refine XfG (fun p l es seen e=> ?_) e
 revert e;generalize seen.getLast? =u;intro e
 cases u with
 | none=>cases e
 | some i=>exact Zgg (fun _=>hk _) e
theorem Jg7 {x:Value} {k:EK1} {K:Value→Prop} (hk: ∀b,k b=true→K b) (e:Qhj x k=true):Zgo x K:=by
 unfold Qhj at e;unfold Zgo;split at e
 ·rename_i c
  by_cases hc:c<LC
  ·rw [decide_eq_true hc] at e;simp only [if_pos hc];exact hk _ e
  ·rw [decide_eq_false hc] at e;cases e
 ·cases e
theorem ZgG {x:Value} {k:EK1} {K:Value→Prop} (hk: ∀b,k b=true→K b) (e:QgN x k=true):QcP x K:=by
 unfold QgN at e;unfold QcP;split at e
 ·rw [JQ] at e;exact hk _ e
 ·cases e
theorem XgD {x i:Value} {k:EK1} {K:Value→Prop} (hk: ∀b,k b=true→K b) (e:JgR x i k=true):Qdg x i K:=by
 unfold JgR at e;unfold Qdg
 split at e
 ·simp only [Bool.and_eq_true,decide_eq_true_eq] at e
  refine ⟨e.1,?_⟩
  have e:=e.2
  split at e
  ·rename_i hb;simp only [hb];rw [JQ] at e;exact hk _ e
  ·cases e
 ·cases e
end
end Go.Proofs.YtkdfaijmjmnhjaaGreat.Abs
namespace Go.Proofs.YtkdfaijmjmnhjaaGreat.Abs
open Go Go.RowKit
variable {P:Program}
def Xdc (P:Program) (t:TypeId) (K:Nat→Bool):Bool:=match P.info? t with|some i=>K i.size|none=>false
def Zch (P:Program) (t:TypeId) (K:Option Nat→Bool):Bool:=
 match P.underlying t with
 | some (.struct _)|some (.array _ _)=>Xdc P t fun k=>K (some k)
 | some _=>Xdc P t fun k=>match k==1 with|true=>K none|false=>false
 | none=>false
def Xbh (P:Program) (t:TypeId) (K:List Value→Nat→Bool):Bool:=
 match P.info? t with
 | some i=>match i.zero with
  | some z=>match plain 3 z&&z.cells.toList.all isCell&&(z.cells.size==i.size) with
   | true=>K z.cells.toList i.bytes
   | false=>false
  | none=>false
 | none=>false
def ZbQ (P:Program) (t:Env) (place:Nat→Option (Nat×TypeId)):List (Nat×Operand)→(List (Nat×Option Nat×Value)→Bool)→Bool
 | [],K=>K []
 |(i,x)::r,K=>match place i with
  | some (off,ty)=>Zch P ty fun a=>fV (ev t x) fun v=>ZbQ P t place r fun l=>K ((off,a,v)::l)
  | none=>false
def Qhr (P:Program) (ty:TypeId) (v:Value) (h:Tr) (n:Nat) (K:Nat→Tr→Nat→Bool):Bool:=
 Zch P ty fun a=>match a with
 | some _=>QgG v fun cs=>eNew cs .exact h n K
 | none=>isCell v&&eNew [v] .exact h n K
abbrev ECT:=FuncId→List Value→Tr→Nat→EC→Bool
def ZgK (C:ECT) (f:Value) (args:List Value) (h:Tr) (n:Nat) (K:EC):Bool:=
 match f with
 | .func (.func f) a b=>fL (a.toList++args++b.toList) fun as=>C f as h n K
 | _=>false
def Je2 (t:Env):List Operand→(List Value→Bool)→Bool
 | [],k=>k []
 | x::l,k=>fV (ev t x) fun v=>Je2 t l fun vs=>k (v::vs)
theorem JdB (t:Env): ∀(l:List Operand) (k:List Value→Bool),Je2 t l k=k (l.map (ev t))
 | [],_=>rfl
 | x::l,k=>by simp only [Je2,Qdd];rw [JdB t l];rfl
def JeK (P:Program) (t:TypeId) (K:EK1):Bool:=
 match P.info? t with
 | some i=>match i.zero with
  | some z=>match plain 3 z with
   | true=>K z
   | false=>false
  | none=>false
 | none=>false
def JdY (P:Program) (t:TypeId) (K:IntKind→TypeId→Bool):Bool:=
 match P.underlying t with
 | some (.map kt e)=>match P.underlying kt with
  | some (.int kk)=>K kk e
  | _=>false
 | _=>false
def Zhq (x y:Value) (K:EK1):Bool:=match x,y with| .int k a,.int k' b=>decide (k=k')&&QdM (if b<a then b else a) fun i=>K (.int k i)|_,_=>false
def QgF (P:Program) (b:Builtin) (vs:List Value) (tys:List TypeId) (K:EK1):Bool:=
 match b with
 | .cap=>match vs,tys with
  | x::_,ty::_=>match P.underlying ty with
   | some (.slice _)=>Qhj x K
   | _=>false
  | _,_=>false
 | .min=>match vs,tys with
  | [x,y],[ty,_]=>match P.underlying ty with
   | some (.int _)=>Zhq x y K
   | _=>false
  | _,_=>false
 | _=>false
def eop (P:Program) (C:ECT) (o:Oper) (t:Env) (h:Tr) (n:Nat) (K:EC):Bool:=
 match o.op.operands.toList.all Zdl with
 | false=>false
 | true=>
  match o.op with
  | .move x| .assign x=>fV (ev t x) fun v=>K v h n
  | .pick c x y=>Qgz (ev t c) fun b=>fV (bif b then ev t x else ev t y) fun v=>K v h n
  | .alloc e=>Xbh P e fun z _=>eNew z .exact h n fun l h n=>K (ptr l 0) h n
  | .box e x=>Qhr P e (ev t x) h n fun l h n=>K (ptr l 0) h n
  | .build ty parts=>Xbh P ty fun z _=>match P.underlying ty with
   | some (.struct fs)=>match fs.toList.all (fun f=>(P.info? f.type).isSome) with|false=>false|true=>ZbQ P t (fun i=>(fs[i]?).map fun f=>(f.offset,f.type)) parts.toList fun l=>Xeh z l fun cs=>fL cs fun cs=>K (.agg cs.toArray) h n
   | some (.array _ e)=>Xdc P e fun k=>ZbQ P t (fun i=>some (i*k,e)) parts.toList fun l=>Xeh z l fun cs=>fL cs fun cs=>K (.agg cs.toArray) h n
   | _=>false
  | .buildSlice ty len parts=>match P.underlying ty with
   | some (.slice e)=>Xbh P e fun z _=>match decide (len*z.length≤1000000)&&decide (len≤1000000) with
    | true=>ZbQ P t (fun i=>some (i*z.length,e)) parts.toList fun l=>Xeh (reps len z) l fun cs=>eNew cs .exact h n fun l h n=>K (.slice (some ⟨l,0,none⟩) len len) h n
    | false=>false
   | _=>false
  | .load ty a=>XgC (ev t a) fun l o=>Zch P ty fun a=>match a with
   | some k=>Jhc h l o k fun cs=>K (.agg cs.toArray) h n
   | none=>eLd h l o fun v=>K v h n
  | .store ty a x=>XgC (ev t a) fun l o=>Zch P ty fun a=>match a with
   | some k=>QgG (ev t x) fun cs=>decide (cs.length=k)&&QgY h l o cs fun h=>K undef h n
   | none=>fV (ev t x) fun v=>eSt h l o v fun h=>K undef h n
  | .nilCheck x=>Xhj (ev t x) fun v=>K v h n
  | .binOp op xt x y _=>Jhk (Zfj P xt) op (ev t x) (ev t y) fun v=>K v h n
  | .unOp op _ x=>eUn op (ev t x) fun v=>K v h n
  | .convert src dst x=>match P.underlying src,P.underlying dst with
   | some _,some (.int k)=>XgN k (ev t x) fun v=>K v h n
   | _,_=>false
  | .makeFunc fn first captured=>Je2 t first.toList fun a=>Je2 t captured.toList fun b=>K (.func fn a.toArray b.toArray) h n
  | .makeSlice ty l c=>match P.underlying ty with
   | some (.slice e)=>Xbh P e fun z bytes=>Zg4 (ev t l) (ev t c) z bytes h n K
   | _=>false
  | .slice ty x lo hi mx=>match P.underlying ty,hi.isNone&&mx.isSome with
   | some (.slice e),false=>Xdc P e fun z=>XfT (ev t x) (lo.map (ev t)) (hi.map (ev t)) (mx.map (ev t)) z fun v=>K v h n
   | _,_=>false
  | .fieldAddr s x f=>match P.underlying s with
   | some (.struct fs)=>match fs[f]? with
    | some fd=>Xdc P fd.type fun k=>match k==0 with
     | true=>false
     | false=>Jdq (ev t x) fd.offset fun v=>K v h n
    | none=>false
   | _=>false
  | .field xt x f=>match P.underlying xt with
   | some (.struct fs)=>match fs[f]? with
    | some fd=>Zch P fd.type fun a=>QgG (ev t x) fun cs=>Jgg cs fd.offset a fun v=>K v h n
    | none=>false
   | _=>false
  | .indexAddr ty x i=>match P.underlying ty with
   | some (.slice e)=>Xdc P e fun z=>Zcx (ev t x) (ev t i) z fun v=>K v h n
   | some (.array len e)=>Xdc P e fun z=>ZcV (ev t x) (ev t i) len z fun v=>K v h n
   | _=>false
  | .index xt x i=>match P.underlying xt with
   | some (.array len e)=>Xdc P e fun z=>Zch P e fun a=>Jhq (ev t x) (ev t i) len z a fun v=>K v h n
   | some .string=>JgR (ev t x) (ev t i) fun v=>K v h n
   | _=>false
  | .extract x i=>Jdy (ev t x) i fun v=>K v h n
  | .call c=>match c.callee with
   | .value f=>Je2 t c.args.toList fun as=>ZgK C (ev t f) as h n K
   | .invoke _ _=>false
   | .builtin b=>match b,c.args.toList,c.argTypes.toList with
    | .len,x::_,ty::_=>match P.underlying ty with
     | some (.slice _)=>Zhf (ev t x) fun v=>K v h n
     | some (.array len _)=>K (.int .i64 len) h n
     | some .string=>QgN (ev t x) fun v=>K v h n
     | _=>false
    | .append,s::x::_,ty::tx::_=>match P.underlying ty,P.underlying tx with
     | some (.slice e),some (.slice _)=>Xbh P e fun z bytes=>Qep (ev t s) (ev t x) z.length bytes h n K
     | some (.slice e),some (.int _)=>Xbh P e fun z bytes=>JdI (ev t s) (ev t x) z bytes h n K
     | _,_=>false
    | .copy,d::s::_,ty::_=>match P.underlying ty with
     | some (.slice e)=>Xdc P e fun z=>Xgx (ev t d) (ev t s) z h fun v h=>K v h n
     | _=>false
    | .clear,x::_,ty::_=>match P.underlying ty with
     | some (.slice e)=>Xbh P e fun z _=>Zfr (ev t x) z h fun v h=>K v h n
     | _=>false
    | b',xs,ts=>QgF P b' (xs.map (ev t)) ts fun v=>K v h n
  | .makeMap ty r=>match r with
   | none=>ZfU (.map []) h n fun l h n=>K (.map (some l)) h n
   | some x=>match P.underlying ty with
    | some (.map _ _)=>Jgr (ev t x) fun _=>ZfU (.map []) h n fun l h n=>K (.map (some l)) h n
    | _=>false
  | .lookup xt x i ok=>JdY P xt fun kk e=>JeK P e fun z=>ZfK kk (ev t x) (ev t i) z ok h fun v=>K v h n
  | .mapUpdate ty m k x| .insert ty m k x=>JdY P ty fun kk _=>fV (ev t x) fun x=>Qfm kk (ev t m) (ev t k) x h fun h=>K undef h n
  | .mapEntry ty m k=>JdY P ty fun kk e=>JeK P e fun z=>QdT kk (ev t m) (ev t k) z h fun v h=>K v h n
  | .entryStore _ m s x=>fV (ev t x) fun x=>Zc4 (ev t m) (ev t s) x h fun h=>K undef h n
  | .range xt x=>match P.underlying xt with
   | some (.map _ _)=>Jfl (ev t x) h n fun l h n=>K (ptr l 0) h n
   | _=>false
  | .next it false=>Zg2 (ev t it) h fun v h=>K v h n
  | .entry it=>Qgn (ev t it) h fun v=>K v h n
  | _=>false
section
variable {h:Tr} {n:Nat}
theorem Xa7 {t:TypeId} {k:Nat→Bool} {K:Nat→Prop} (hk: ∀b,k b=true→K b) (e:Xdc P t k=true):Zcp P t K:=by
 unfold Xdc at e;unfold Zcp
 revert e;generalize P.info? t=u;intro e
 split at e
 ·exact hk _ e
 ·cases e
theorem Qbk {t:TypeId} {k:Option Nat→Bool} {K:Option Nat→Prop} (hk: ∀b,k b=true→K b) (e:Zch P t k=true):Xaw P t K:=by
 unfold Zch at e;unfold Xaw
 revert e;generalize P.underlying t=u;intro e
 split at e
 ·exact Xa7 (fun _=>hk _) e
 ·exact Xa7 (fun _=>hk _) e
 ·rename_i d h1 h2
  cases d<;>first|exact absurd rfl (h1 _)|exact absurd rfl (h2 _ _)|(refine Xa7 (fun k e=> ?_) e;revert e;generalize (k==1)=b;intro e;cases b;cases e;exact hk _ e)
 ·cases e
theorem QaU {t:TypeId} {k:List Value→Nat→Bool} {K:List Value→Nat→Prop} (hk: ∀z b,k z b=true→K z b) (e:Xbh P t k=true):zeroOf P t K:=by
 unfold Xbh at e;unfold zeroOf
 revert e;generalize P.info? t=u;intro e
 cases u with
 | none=>cases e
 | some i=>
  simp only at e ⊢
  revert e;generalize i.zero=u;intro e
  cases u with
  | none=>cases e
  | some z=>
   simp only at e ⊢
   revert e;generalize (plain 3 z&&z.cells.toList.all isCell&&(z.cells.size==i.size))=b;intro e
   cases b
   ·cases e
   ·exact hk _ _ e
theorem ZbO {t:Env} {pl:Nat→Option (Nat×TypeId)}: ∀{parts:List (Nat×Operand)} {k:List (Nat×Option Nat×Value)→Bool} {K:List (Nat×Option Nat×Value)→Prop},(∀l,k l=true→K l)→ZbQ P t pl parts k=true→partsOf P t pl parts K
 | [],k,K,hk,e=>hk _ e
 |(i,x)::r,k,K,hk,e=>by
  simp only [ZbQ,Qdd] at e
  simp only [partsOf]
  revert e;generalize pl i=u;intro e
  split at e
  ·exact Qbk (fun a=>ZbO (fun l=>hk _)) e
  ·cases e
theorem Jhb {ty:TypeId} {v:Value} {k:Nat→Tr→Nat→Bool} {K:Nat→G→Nat→Prop} (hk: ∀l h n,k l h n=true→K l h.get n) (e:Qhr P ty v h n k=true):Jg5 P ty v h.get n K:=by
 refine Qbk (fun a e=> ?_) e
 cases a with
 | none=>simp only [Bool.and_eq_true] at e;exact ⟨e.1,ZcA hk e.2⟩
 | some z=>exact QdU (fun _=>ZcA hk) e
theorem Qez {t:TypeId} {k:EK1} {K:Value→Prop} (hk: ∀z,k z=true→K z) (e:JeK P t k=true):JdA P t K:=by
 unfold JeK at e;unfold JdA
 revert e;generalize P.info? t=u;intro e
 cases u with
 | none=>cases e
 | some i=>
  simp only at e ⊢
  revert e;generalize i.zero=u;intro e
  cases u with
  | none=>cases e
  | some z=>
   simp only at e ⊢
   revert e;generalize plain 3 z=b;intro e
   cases b
   ·cases e
   ·exact hk _ e
theorem ZcP {t:TypeId} {k:IntKind→TypeId→Bool} {K:IntKind→TypeId→Prop} (hk: ∀a b,k a b=true→K a b) (e:JdY P t k=true):mapOf P t K:=by
 unfold JdY at e;unfold mapOf
 split at e
 ·rename_i hu
  simp only [hu]
  split at e
  ·rename_i hk2;simp only [hk2];exact hk _ _ e
  ·cases e
 ·cases e
theorem Zgy {b:Builtin} {vs:List Value} {tys:List TypeId} {k:EK1} {K:Value→Prop} (hk: ∀z,k z=true→K z) (e:QgF P b vs tys k=true):ZdU P b vs tys K:=by
 unfold QgF at e;unfold ZdU
 split at e
 ·split at e
  ·revert e;rename_i ty _;try simp only
   generalize P.underlying ty=u;intro e
   split at e
   ·exact Jg7 hk e
   ·cases e
  ·cases e
 ·split at e
  ·revert e;try simp only
   rename_i ty _
   generalize P.underlying ty=u;intro e
   split at e
   ·unfold Zhq at e;unfold Zhd
    split at e
    ·simp only [Bool.and_eq_true,decide_eq_true_eq,Qcy] at e;exact ⟨e.1,hk _ e.2⟩
    ·cases e
   ·cases e
  ·cases e
 ·cases e
def CTR (D:ECT) (C:CT):Prop:= ∀f args h n (k:EC) (K:Cont),(∀v h n,k v h n=true→K v h.get n)→D f args h n k=true→C f args h.get n K
theorem QgK {D:ECT} {C:CT} (hC:CTR D C) {f:Value} {args:List Value} {k:EC} {K:Cont} (hk: ∀v h n,k v h n=true→K v h.get n) (e:ZgK D f args h n k=true):Qbh C f args h.get n K:=by
 unfold ZgK at e;unfold Qbh
 split at e
 ·rw [Qde] at e;exact hC _ _ _ _ _ _ hk e
 ·cases e
theorem Qg7 {D:ECT} {C:CT} (hC:CTR D C) {o:Oper} {t:Env} {k:EC} {K:Cont} (hk: ∀v h n,k v h n=true→K v h.get n) (e:eop P D o t h n k=true):aop P C o t h.get n K:=by
 unfold eop at e;unfold aop
 revert e
 generalize o.op.operands.toList.all Zdl=b
 generalize o.op=op
 intro e
 cases b
 ·cases e
 simp only at e ⊢
 cases op with
 | move x=>simp only [Qdd] at e;exact hk _ _ _ e
 | assign x=>simp only [Qdd] at e;exact hk _ _ _ e
 | pick c x y=>exact JgP (fun b e=>by rw [Qdd] at e;exact hk _ _ _ e) e
 | alloc ty=>exact QaU (fun z b e=>ZcA (fun l h n e=>hk _ _ _ e) e) e
 | box ty x=>exact Jhb (fun l h n e=>hk _ _ _ e) e
 | build ty parts=>
  refine QaU (fun z b e=> ?_) e
  revert e;generalize P.underlying ty=u;intro e
  split at e
  ·rename_i fs
   revert e;generalize hb:fs.toList.all (fun f=>(P.info? f.type).isSome)=b;intro e
   cases b
   ·cases e
   ·simp only [hb]
    exact ZbO (fun l e=>QcR (fun cs e=>by rw [Qde] at e;exact hk _ _ _ e) e) e
  ·exact Xa7 (fun _ e=>ZbO (fun l e=>QcR (fun cs e=>by rw [Qde] at e;exact hk _ _ _ e) e) e) e
  ·cases e
 | buildSlice ty len parts=>
  simp only at e ⊢
  revert e;generalize P.underlying ty=u;intro e
  split at e
  ·refine QaU (fun z b e=> ?_) e
   revert e;generalize (decide (len*z.length≤1000000)&&decide (len≤1000000))=b;intro e
   cases b
   ·cases e
   ·exact ZbO (fun l e=>QcR (fun cs e=>ZcA (fun l h n e=>hk _ _ _ e) e) e) e
  ·cases e
 | load ty a=>
  refine QdV (fun l o e=>Qbk (fun a e=> ?_) e) e
  cases a with
  | none=>exact Jej (fun v e=>hk _ _ _ e) e
  | some z=>exact Xfo (fun v e=>hk _ _ _ e) e
 | store ty a x=>
  refine QdV (fun l o e=>Qbk (fun a e=> ?_) e) e
  cases a with
  | none=>simp only [Qdd] at e;exact Xe2 (fun h e=>hk _ _ _ e) e
  | some z=>exact QdU (fun cs e=>by simp only [Bool.and_eq_true,decide_eq_true_eq] at e;exact ⟨e.1,Jey (fun h e=>hk _ _ _ e) e.2⟩) e
 | nilCheck x=>exact Xg4 (fun v e=>hk _ _ _ e) e
 | binOp op xt x y s=>exact Xha (fun v e=>hk _ _ _ e) e
 | unOp op ty x=>exact Jhg (fun v e=>hk _ _ _ e) e
 | convert src dst x=>
  simp only at e ⊢
  revert e;generalize P.underlying src=u;generalize P.underlying dst=v;intro e
  split at e
  ·exact JgG (fun v e=>hk _ _ _ e) e
  ·cases e
 | makeFunc fn first captured=>
  simp only [JdB] at e
  have e2: ∀a:Array Operand,(a.toList.map (ev t)).toArray=a.map (ev t):=by intro a;cases a;simp
  rw [e2,e2] at e
  exact hk _ _ _ e
 | makeSlice ty l c=>
  simp only at e ⊢
  revert e;generalize P.underlying ty=u;intro e
  split at e
  ·exact QaU (fun z b e=>QgD hk e) e
  ·cases e
 | slice ty x lo hi mx=>
  simp only at e ⊢
  revert e;generalize P.underlying ty=u;generalize (hi.isNone&&mx.isSome)=b;intro e
  split at e
  ·exact Xa7 (fun z e=>Jgk (fun v e=>hk _ _ _ e) e) e
  ·cases e
 | fieldAddr s x f=>
  simp only at e ⊢
  revert e;generalize P.underlying s=u;intro e
  split at e
  ·rename_i fs
   revert e;try simp only
   generalize fs[f]? =w;intro e
   split at e
   ·refine Xa7 (fun z e=> ?_) e
    revert e;generalize (z==0)=b;intro e
    cases b
    ·exact ZdW (fun v e=>hk _ _ _ e) e
    ·cases e
   ·cases e
  ·cases e
 | field xt x f=>
  simp only at e ⊢
  revert e;generalize P.underlying xt=u;intro e
  split at e
  ·rename_i fs
   revert e;try simp only
   generalize fs[f]? =w;intro e
   split at e
   ·exact Qbk (fun a e=>QdU (fun cs e=>XfA (fun v e=>hk _ _ _ e) e) e) e
   ·cases e
  ·cases e
 | indexAddr ty x i=>
  simp only at e ⊢
  revert e;generalize P.underlying ty=u;intro e
  split at e
  ·exact Xa7 (fun z e=>Jea (fun v e=>hk _ _ _ e) e) e
  ·exact Xa7 (fun z e=>Qef (fun v e=>hk _ _ _ e) e) e
  ·cases e
 | index xt x i=>
  simp only at e ⊢
  revert e;generalize P.underlying xt=u;intro e
  split at e
  ·exact Xa7 (fun z e=>Qbk (fun a e=>Xg9 (fun v e=>hk _ _ _ e) e) e) e
  ·exact XgD (fun v e=>hk _ _ _ e) e
  ·cases e
 | extract x i=>exact Ze3 (fun v e=>hk _ _ _ e) e
 | call c=>
  simp only at e ⊢
  revert e;generalize c.callee=cl;intro e
  cases cl with
  | value f=>simp only [JdB] at e;exact QgK hC hk e
  | invoke _ _=>cases e
  | builtin b=>
   simp only at e ⊢
   revert e;generalize c.args.toList=as;generalize c.argTypes.toList=ts;intro e
   split at e
   ·revert e;rename_i ty _;simp only;generalize P.underlying ty=u;intro e
    split at e
    ·exact Xg1 (fun v e=>hk _ _ _ e) e
    ·exact hk _ _ _ e
    ·exact ZgG (fun v e=>hk _ _ _ e) e
    ·cases e
   ·rename_i ty tx _
    revert e;try simp only
    generalize P.underlying ty=u;generalize P.underlying tx=w;intro e
    split at e
    ·exact QaU (fun z b e=>ZfO hk e) e
    ·exact QaU (fun z b e=>ZeR hk e) e
    ·cases e
   ·rename_i ty _
    revert e;try simp only
    generalize P.underlying ty=u;intro e
    split at e
    ·exact Xa7 (fun z e=>XgF (fun v h e=>hk _ _ _ e) e) e
    ·cases e
   ·rename_i ty _
    revert e;try simp only
    generalize P.underlying ty=u;intro e
    split at e
    ·exact QaU (fun z b e=>Jgj (fun v h e=>hk _ _ _ e) e) e
    ·cases e
   ·rename_i n1 n2 n3 n4
    split
    ·exact (n1 _ _ _ _ rfl rfl rfl).elim
    ·exact (n2 _ _ _ _ _ _ rfl rfl rfl).elim
    ·exact (n3 _ _ _ _ _ rfl rfl rfl).elim
    ·exact (n4 _ _ _ _ rfl rfl rfl).elim
    ·exact Zgy (fun v e=>hk _ _ _ e) e
 | makeMap ty r=>
  cases r with
  | none=>exact Qed (fun l h n e=>hk _ _ _ e) e
  | some x=>
   simp only at e ⊢
   revert e;generalize P.underlying ty=u;intro e
   split at e
   ·exact Jdp (fun _ e=>Qed (fun l h n e=>hk _ _ _ e) e) e
   ·cases e
 | lookup xt x i ok=>exact ZcP (fun _ _ e=>Qez (fun z e=>QfJ (fun v e=>hk _ _ _ e) e) e) e
 | mapUpdate ty m k x=>exact ZcP (fun _ _ e=>by rw [Qdd] at e;exact Zd8 (fun h e=>hk _ _ _ e) e) e
 | insert ty m k x=>exact ZcP (fun _ _ e=>by rw [Qdd] at e;exact Zd8 (fun h e=>hk _ _ _ e) e) e
 | mapEntry ty m k=>exact ZcP (fun _ _ e=>Qez (fun z e=>Qem (fun v h e=>hk _ _ _ e) e) e) e
 | entryStore ty m s x=>simp only [Qdd] at e;exact Zdz (fun h e=>hk _ _ _ e) e
 | range xt x=>
  simp only at e ⊢
  revert e;generalize P.underlying xt=u;intro e
  split at e
  ·exact Qf6 (fun l h n e=>hk _ _ _ e) e
  ·cases e
 | next it b=>
  cases b with
  | true=>cases e
  | false=>exact QgJ (fun v h e=>hk _ _ _ e) e
 | entry it=>exact Qf8 (fun v e=>hk _ _ _ e) e
 | _=>cases e
end
end Go.Proofs.YtkdfaijmjmnhjaaGreat.Abs
namespace Go.Proofs.YtkdfaijmjmnhjaaGreat.Abs
open Go Go.RowKit
variable {P:Program}
abbrev EE:=List Value→Tr→Nat→Bool
abbrev EQ:=Exit→List Value→Tr→Nat→Bool
def ZeB (v:Value) (a b:Bool):Bool:=match v with| .bool true=>a| .bool false=>b|_=>false
def Jfr (gd:Bool) (t:List Value) (dst:Option Tmp) (v:Value) (K:List Value→Bool):Bool:=
 match gd with
 | true=>ZeB v (Jgv t dst (.bool true) K) (Jgv t dst (.bool false) K)
 | false=>Jgv t dst v K
def XcS (ops:Array Oper) (o:Oper) (t:Env) (a b:Bool):Bool:=
 match o.guard with
 | none=>a
 | some (j,want)=>match (ops[j]?).bind (·.dst) with
  | some d=>match t d with
   | .bool c=>bif c==want then a else b
   | .tuple _=>b
   | _=>false
  | none=>false
def ZgY (P:Program) (C:ECT) (N:Nat) (ops:Array Oper) (K:EE):List Oper→Nat→List Value→Tr→Nat→Bool
 | [],_,t,h,n=>K t h n
 | o::rest,i,t,h,n=>
  match JcW N o.dst with
  | false=>false
  | true=>
   XcS ops o (Xdg t)
    (eop P C o (Xdg t) h n fun v h n=>Jfr (guarded rest i) t o.dst v fun t=>ZgY P C N ops K rest (i+1) t h n)
    (Jgv t o.dst undef fun t=>ZgY P C N ops K rest (i+1) t h n)
def Zf3:Addr→Addr→Bool
 |⟨l,o,none⟩,⟨l',o',none⟩=>Nat.beq l l'&&Nat.beq o o'
 | _,_=>false
def XdR:Value→Value→Bool
 | .string a,.string b=>XaK a.data.toList b.data.toList
 | .int k i,.int k' i'=>decide (k=k')&&decide (i=i')
 | .bool b,.bool b'=>b==b'
 | .pointer none,.pointer none=>true
 | .pointer (some a),.pointer (some a')=>Zf3 a a'
 | .slice none n c,.slice none n' c'=>Nat.beq n n'&&Nat.beq c c'
 | .slice (some a) n c,.slice (some a') n' c'=>Zf3 a a'&&(Nat.beq n n'&&Nat.beq c c')
 | _,_=>false
def Jeg:List Value→List Value→Bool
 | [],[]=>true
 | x::xs,y::ys=>XdR x y&&Jeg xs ys
 | _,_=>false
def QgQ:BK→BK→Bool
 | .ro,.ro=>true
 | .exact,.exact=>true
 | .loose z,.loose z'=>Nat.beq z z'
 | _,_=>false
def QgP:Option Blk→Option Blk→Bool
 | some (.cells cs k),some (.cells cs' k')=>QgQ k k'&&Jeg cs cs'
 | _,_=>false
theorem JfH {a b:Addr} (h:Zf3 a b=true):a=b:=by
 unfold Zf3 at h
 split at h
 ·simp only [Qfi,Bool.and_eq_true,decide_eq_true_eq] at h;rw [h.1,h.2]
 ·cases h
theorem XcX {a b:Value} (h:XdR a b=true):a=b:=by
 unfold XdR at h
 split at h
 ·rename_i a b
  have:=Jb7 h
  cases a;cases b
  simp only at this
  congr 2
  exact Array.ext' this
 ·simp only [Bool.and_eq_true,decide_eq_true_eq] at h;rw [h.1,h.2]
 ·rw [beq_iff_eq.1 h]
 ·rfl
 ·rw [JfH h]
 ·simp only [Qfi,Bool.and_eq_true,decide_eq_true_eq] at h;rw [h.1,h.2]
 ·simp only [Qfi,Bool.and_eq_true,decide_eq_true_eq] at h;rw [JfH h.1,h.2.1,h.2.2]
 ·cases h
theorem Xeq: ∀{a b:List Value},Jeg a b=true→a=b
 | [],[],_=>rfl
 | x::xs,y::ys,h=>by
  simp only [Jeg,Bool.and_eq_true] at h
  rw [XcX h.1,Xeq h.2]
 | [],_::_,h=>by cases h
 | _::_,[],h=>by cases h
theorem Qgt {a b:Option Blk} (h:QgP a b=true):a=b:=by
 unfold QgP at h
 split at h
 ·rename_i cs k cs' k'
  simp only [Bool.and_eq_true] at h
  have:k=k':=by
   have h:=h.1
   unfold QgQ at h
   split at h
   ·rfl
   ·rfl
   ·simp only [Qfi,decide_eq_true_eq] at h;rw [h]
   ·cases h
  rw [this,Xeq h.2]
 ·cases h
def Zhj (ops:Array Oper) (t:Env) (h h':Tr) (o:Oper):Bool:=
 match o.op with
 | .load _ a=>XcS ops o t (XgC (ev t a) fun l _=>QgP (h'.get l) (h.get l)) true
 | _=>true
def Zgl (ops:Array Oper) (t:Env) (h h':Tr):List Oper→Bool
 | []=>true
 | o::os=>Zhj ops t h h' o&&Zgl ops t h h' os
def Zhe (P:Program) (C:ECT) (N:Nat) (ops:Array Oper) (o:Oper) (guards:Bool) (t:List Value) (h:Tr) (n:Nat) (chk:Tr→Bool) (K:EE):Bool:=
 match JcW N o.dst with
 | false=>false
 | true=>
  XcS ops o (Xdg t)
   (eop P C o (Xdg t) h n fun v h n=>chk h&&Jfr guards t o.dst v fun t=>K t h n)
   (Jgv t o.dst undef fun t=>K t h n)
def JgV (P:Program) (C:ECT) (N:Nat) (ops:Array Oper) (bef:List Nat) (K:List Bool→EE):List Nat→List Bool→EE
 | [],ld,t,h,n=>K ld t h n
 | i::is,ld,t,h,n=>
  match ops.toList[i]? with
  | none=>false
  | some o=>match !ld.getD i true&& !QaM o.op&&XaB ops.toList bef ld i with
   | false=>JgV P C N ops bef K is ld t h n
   | true=>Zhe P C N ops o (guarded ops.toList i) t h n (fun _=>true) fun t h n=>JgV P C N ops bef K is (ld.set i true) t h n
def Xgk (F:Nat→Bool):List Nat→Bool
 | []=>true
 | [e]=>F e
 | e::es=>F e&&Xgk F es
def Zgc (P:Program) (C:ECT) (N:Nat) (ops:Array Oper) (bef:List Nat) (K:EE):Nat→List Bool→EE
 | 0,_,_,_,_=>false
 | k+1,ld,t,h,n=>
  JgV P C N ops bef (fun ld t h n=>
   match nexts ops.toList bef ld with
   | []=>K t h n
   | es=>Xgk (fun e=>match ops.toList[e]? with
    | none=>false
    | some o=>Zhe P C N ops o (guarded ops.toList e) t h n (fun h'=>Zgl ops (Xdg t) h h' (Zfg ops.toList bef ld e)) fun t h n=>Zgc P C N ops bef K k (ld.set e true) t h n) es)
   (List.range ops.size) ld t h n
def Zev (P:Program) (C:ECT) (N:Nat) (ops:Array Oper) (K:EE) (t:List Value) (h:Tr) (n:Nat):Bool:=
 match Jd9 ops.toList (JH ops.toList)&&Xdl N ops with
 | false=>false
 | true=>Zgc P C N ops (JH ops.toList) K (ops.size+1) (List.replicate ops.size false) t h n
def ZeE (K:EE) (Q:EQ):EQ
 | .normal,t,h,n=>K t h n
 | e,t,h,n=>Q e t h n
def Xen (id:Nat) (Q:EQ):EQ
 | .exit i,t,h,n=>match i==id with|true=>Q .normal t h n|false=>Q (.exit i) t h n
 | e,t,h,n=>Q e t h n
def XgA (F:EE→EE):Nat→EE
 | 0=>fun _ _ _=>false
 | k+1=>fun t h n=>F (XgA F k) t h n
def ZcT (P:Program) (fuel:Nat) (C:ECT) (N:Nat):Code→EQ→EE
 | .skip,Q=>Q .normal
 | .region _ ops false,Q=>fun t h n=>match Xdl N ops with
  | false=>false
  | true=>ZgY P C N ops (Q .normal) ops.toList 0 t h n
 | .region _ ops true,Q=>Zev P C N ops (Q .normal)
 | .seq a b,Q=>ZcT P fuel C N a (ZeE (ZcT P fuel C N b Q) Q)
 | .cond c a b,Q=>fun t h n=>match Zdl c with
  | false=>false
  | true=>ZeB (ev (Xdg t) c) (ZcT P fuel C N a Q t h n) (ZcT P fuel C N b Q t h n)
 | .block id c,Q=>ZcT P fuel C N c (Xen id Q)
 | .loop c,Q=>XgA (fun I=>ZcT P fuel C N c (ZeE I Q)) fuel
 | .exit id,Q=>Q (.exit id)
 | .ret,Q=>Q .ret
 | _,_=>fun _ _ _=>false
def QgU (P:Program) (t:Env) (h:Tr):List ResultVar→(List Value→Bool)→Bool
 | [],K=>K []
 | .tmp i::r,K=>fV (t i) fun v=>QgU P t h r fun vs=>K (v::vs)
 | .cell a ty::r,K=>XgC (t a) fun l o=>Zch P ty fun ag=>match ag with
  | some k=>Jhc h l o k fun cs=>QgU P t h r fun vs=>K (.agg cs.toArray::vs)
  | none=>eLd h l o fun v=>QgU P t h r fun vs=>K (v::vs)
def Zg3 (P:Program) (rs:List ResultVar) (K:EC):EQ
 | .normal,t,h,n| .ret,t,h,n=>QgU P (Xdg t) h rs fun vs=>K (tup vs) h n
 | _,_,_,_=>false
def ZgL (P:Program) (fuel:Nat) (C:ECT) (f:FuncId) (args:List Value) (h:Tr) (n:Nat) (K:EC):Bool:=
 match P.funcs[f]? with
 | some fn=>match fn.body,fn.name== "runtime.NumGoroutine",decide (args.length≤fn.ntmps) with
  | some c,false,true=>fL (args++List.replicate (fn.ntmps-args.length) undef) fun t=>ZcT P fuel C fn.ntmps c (Zg3 P fn.results.toList K) t h n
  | _,_,_=>false
 | none=>false
abbrev EH:=FuncId→Option (ECT→List Value→Tr→Nat→EC→Bool)
def Jw (P:Program) (H:EH) (fuel:Nat):Nat→ECT
 | 0=>fun _ _ _ _ _=>false
 | k+1=>fun f args h n K=>match H f with
  | some e=>e (Jw P H fuel k) args h n K
  | none=>ZgL P fuel (Jw P H fuel k) f args h n K
section
variable {h:Tr} {n:Nat}
theorem XeI {v:Value} {a b:Bool} {A B:Prop} (ha:a=true→A) (hb:b=true→B) (e:ZeB v a b=true):Qa v A B:=by
 unfold ZeB at e;unfold Qa;split at e<;>first|exact ha e|exact hb e|cases e
theorem QdZ {t:List Value} {d:Option Tmp} {v:Value} {k:List Value→Bool} {K:Env→Prop} (hk: ∀t',k t'=true→K (Xdg t')) (e:Jgv t d v k=true):K (put (Xdg t) d v):=by
 obtain ⟨t',h1,_,h2⟩:=Zg0 e
 rw [←h1];exact hk _ h2
theorem XeJ {gd:Bool} {t:List Value} {d:Option Tmp} {v:Value} {k:List Value→Bool} {K:Env→Prop} (hk: ∀t',k t'=true→K (Xdg t')) (e:Jfr gd t d v k=true):QcA gd (Xdg t) d v K:=by
 cases gd with
 | true=>exact XeI (QdZ hk) (QdZ hk) e
 | false=>exact QdZ hk e
theorem Jc4 {ops:Array Oper} {o:Oper} {t:Env} {a b:Bool} {A B:Prop} (ha:a=true→A) (hb:b=true→B) (e:XcS ops o t a b=true):QC ops o t A B:=by
 unfold XcS at e;unfold QC
 revert e;generalize o.guard=gd;intro e
 split at e
 ·exact ha e
 ·rename_i j want
  revert e;try simp only
  generalize (ops[j]?).bind (·.dst)=u;intro e
  split at e
  ·rename_i d
   revert e;try simp only
   generalize t d=v;intro e
   split at e
   ·rename_i c
    revert e;try simp only
    generalize (c==want)=b;intro e
    cases b
    ·exact hb e
    ·exact ha e
   ·exact hb e
   ·cases e
  ·cases e
def KR (k:EE) (K:Qj):Prop:= ∀t h n,k t h n=true→K (Xdg t) h.get n
theorem Qfk {D:ECT} {C:CT} (hC:CTR D C) {N:Nat} {ops:Array Oper} {k:EE} {K:Qj} (hk:KR k K): ∀(l:List Oper) (i:Nat) (t:List Value) (h:Tr) (n:Nat),ZgY P D N ops k l i t h n=true→ZeJ P C N ops K l i (Xdg t) h.get n
 | [],i,t,h,n,e=>hk _ _ _ e
 | o::rest,i,t,h,n,e=>by
  simp only [ZgY] at e
  simp only [ZeJ]
  revert e;generalize JcW N o.dst=b;intro e
  cases b
  ·cases e
  ·exact Jc4 (Qg7 hC fun v h n=>XeJ (K:=fun t=>ZeJ P C N ops K rest (i+1) t h.get n) fun t'=>Qfk hC hk rest (i+1) t' h n)
    (QdZ (K:=fun t=>ZeJ P C N ops K rest (i+1) t h.get n) fun t'=>Qfk hC hk rest (i+1) t' h n) e
theorem Xg6 {ops:Array Oper} {t:Env} {h h':Tr} {o:Oper} (e:Zhj ops t h h' o=true):Qg8 ops t h.get h'.get o:=by
 unfold Zhj at e;unfold Qg8
 revert e;generalize o.op=op;intro e
 cases op with
 | load ty a=>exact Jc4 (QdV fun l o e=>Qgt e) (fun _=>trivial) e
 | _=>trivial
theorem JfS {ops:Array Oper} {t:Env} {h h':Tr} {p:Prop} (hp:p): ∀{l:List Oper},Zgl ops t h h' l=true→ZdO ops t h.get h'.get l p
 | [],_=>hp
 | o::os,e=>by
  simp only [Zgl,Bool.and_eq_true] at e
  exact ⟨Xg6 e.1,JfS hp e.2⟩
theorem Jgp {D:ECT} {C:CT} (hC:CTR D C) {N:Nat} {ops:Array Oper} {o:Oper} {gd:Bool} {t:List Value} {after:G→Prop→Prop} {chk:Tr→Bool} (ha: ∀h p,chk h=true→p→after h.get p) {k:EE} {K:Qj} (hk:KR k K) (e:Zhe P D N ops o gd t h n chk k=true):XfL P C N ops o gd (Xdg t) h.get n after K:=by
 unfold Zhe at e;unfold XfL
 revert e;generalize JcW N o.dst=b;intro e
 cases b
 ·cases e
 ·exact Jc4 (Qg7 hC fun v h n e=>by
     simp only [Bool.and_eq_true] at e
     exact ha _ _ e.1 (XeJ (K:=fun t=>K t h.get n) (fun t'=>hk t' h n) e.2))
    (QdZ (K:=fun t=>K t h.get n) fun t'=>hk t' h n) e
theorem ZfH {D:ECT} {C:CT} (hC:CTR D C) {N:Nat} {ops:Array Oper} {bef:List Nat} {k:List Bool→EE} {K:List Bool→Qj} (hk: ∀ld,KR (k ld) (K ld)): ∀(is:List Nat) (ld:List Bool),KR (JgV P D N ops bef k is ld) (Jfi P C N ops bef K is ld)
 | [],ld=>hk ld
 | i::is,ld=>fun t h n e=>by
  simp only [JgV] at e
  simp only [Jfi]
  revert e;generalize ops.toList[i]? =u;intro e
  cases u with
  | none=>cases e
  | some o=>
   revert e;try simp only
   generalize (!ld.getD i true&& !QaM o.op&&XaB ops.toList bef ld i)=b;intro e
   cases b
   ·exact ZfH hC hk is ld t h n e
   ·exact Jgp hC (fun _ _ _ p=>p) (ZfH hC hk is _) e
theorem ZfE {f:Nat→Bool} {F:Nat→Prop} (hf: ∀i,f i=true→F i): ∀(l:List Nat),Xgk f l=true→Zel F l
 | [],_=>trivial
 | [e],h=>hf _ h
 | e::e2::es,h=>by
  simp only [Xgk,Bool.and_eq_true] at h
  exact ⟨hf _ h.1,ZfE hf (e2::es) h.2⟩
theorem QfD {D:ECT} {C:CT} (hC:CTR D C) {N:Nat} {ops:Array Oper} {bef:List Nat} {k:EE} {K:Qj} (hk:KR k K): ∀(d:Nat) (ld:List Bool),KR (Zgc P D N ops bef k d ld) (QcJ P C N ops bef K d ld)
 | 0,ld=>fun _ _ _ e=>by cases e
 | d+1,ld=>fun t h n e=>by
  simp only [Zgc] at e
  simp only [QcJ]
  refine ZfH hC (fun ld t h n e=> ?_) _ _ t h n e
  revert e;generalize nexts ops.toList bef ld=u;intro e
  cases u with
  | nil=>exact hk _ _ _ e
  | cons i0 is=>
   refine ZfE (fun i e=> ?_) (i0::is) e
   revert e;generalize ops.toList[i]? =u;intro e
   cases u with
   | none=>cases e
   | some o=>
    exact Jgp hC (fun h' p hc hp=>JfS hp hc) (QfD hC hk d _) e
theorem Zfo {D:ECT} {C:CT} (hC:CTR D C) {N:Nat} {ops:Array Oper} {k:EE} {K:Qj} (hk:KR k K):KR (Zev P D N ops k) (XbH P C N ops K):=fun t h n e=>by
 unfold Zev at e;unfold XbH
 revert e;generalize (Jd9 ops.toList (JH ops.toList)&&Xdl N ops)=b;intro e
 cases b
 ·cases e
 ·exact QfD hC hk _ _ t h n e
def QR (q:EQ) (Q:Za1):Prop:= ∀x,KR (q x) (Q x)
theorem QeB {k:EE} {K:Qj} {q:EQ} {Q:Za1} (hk:KR k K) (hq:QR q Q):QR (ZeE k q) (Xde K Q):=fun x=>by
 cases x<;>first|exact hk|exact hq _
theorem Jfx {q:EQ} {Q:Za1} {id:Nat} (hq:QR q Q):QR (Xen id q) (ZcB id Q):=fun x=>by
 cases x with
 | exit i=>intro t h n e;simp only [Xen] at e;simp only [ZcB];revert e;generalize (i==id)=b;intro e;cases b<;>exact hq _ t h n e
 | _=>exact hq _
theorem ZgQ {fuel:Nat} {D:ECT} {C:CT} (hC:CTR D C) {N:Nat}: ∀(c:Code) {q:EQ} {Q:Za1},QR q Q→KR (ZcT P fuel D N c q) (Xaj P C N c Q):=by
 intro c
 induction c with
 | skip=>intro q Q hq;exact hq _
 | exit id=>intro q Q hq;exact hq _
 | ret=>intro q Q hq;exact hq _
 | region id ops draw=>
  intro q Q hq
  cases draw with
  | false=>
   intro t h n e
   simp only [ZcT] at e
   simp only [Xaj]
   revert e;generalize Xdl N ops=b;intro e
   cases b
   ·cases e
   ·exact Qfk hC (hq _) _ _ t h n e
  | true=>exact Zfo hC (hq _)
 | seq a b iha ihb=>intro q Q hq;exact iha (QeB (ihb hq) hq)
 | cond c a b iha ihb=>
  intro q Q hq t h n e
  simp only [ZcT] at e
  simp only [Xaj]
  revert e;generalize Zdl c=b;intro e
  cases b
  ·cases e
  ·exact XeI (iha hq t h n) (ihb hq t h n) e
 | block id c ih=>intro q Q hq;exact ih (Jfx hq)
 | loop c ih=>
  intro q Q hq t h n e
  intro I hI
  have: ∀d,KR (XgA (fun I=>ZcT P fuel D N c (ZeE I q)) d) I:=by
   intro d
   induction d with
   | zero=>intro t h n e;cases e
   | succ d ihd=>intro t h n e;exact hI _ _ _ (ih (QeB ihd hq) t h n e)
  exact this fuel t h n e
 | _=>intro q Q hq t h n e;cases e
theorem Zd4 {t:Env}: ∀{rs:List ResultVar} {k:List Value→Bool} {K:List Value→Prop},(∀l,k l=true→K l)→QgU P t h rs k=true→Zfi P t h.get rs K
 | [],k,K,hk,e=>hk _ e
 | .tmp i::r,k,K,hk,e=>by
  simp only [QgU,Qdd] at e
  exact Zd4 (rs:=r) (k:=fun vs=>k (t i::vs)) (K:=fun vs=>K (t i::vs)) (fun _=>hk _) e
 | .cell a ty::r,k,K,hk,e=>by
  refine QdV (fun l o e=>Qbk (fun ag e=> ?_) e) e
  cases ag with
  | none=>exact Jej (fun _ e=>Zd4 (fun _=>hk _) e) e
  | some z=>exact Xfo (fun _ e=>Zd4 (fun _=>hk _) e) e
theorem QgC {rs:List ResultVar} {k:EC} {K:Cont} (hk: ∀v h n,k v h n=true→K v h.get n):QR (Zg3 P rs k) (ZgU P rs K):=fun x t h n e=>by
 cases x with
 | normal=>exact Zd4 (fun vs e=>⟨_,Sub.refl _,hk _ _ _ e⟩) e
 | ret=>exact Zd4 (fun vs e=>⟨_,Sub.refl _,hk _ _ _ e⟩) e
 | _=>cases e
theorem JfO (args:List Value) (m:Nat):Xdg (args++List.replicate m undef)=Jj args:=by
 funext i
 simp only [Xdg,Jj,List.getD_eq_getElem?_getD]
 by_cases hi:i<args.length
 ·rw [List.getElem?_append_left hi]
 ·rw [List.getElem?_append_right (by omega),List.getElem?_eq_none (l:=args) (by omega)]
  simp only [List.getElem?_replicate]
  split<;>rfl
theorem XgS {fuel:Nat} {D:ECT} {C:CT} (hC:CTR D C):CTR (ZgL P fuel D) (Je P C):=fun f args h n k K hk e=>by
 unfold ZgL at e;unfold Je
 revert e;generalize P.funcs[f]? =u;intro e
 cases u with
 | none=>cases e
 | some fn=>
  revert e;try simp only
  generalize hb:fn.body=b;generalize (fn.name== "runtime.NumGoroutine")=c;generalize decide (args.length≤fn.ntmps)=d;intro e
  split at e
  ·rw [Qde] at e
   have:=ZgQ hC _ (QgC hk) _ _ _ e
   rw [JfO] at this
   exact this
  ·cases e
def HOk (H:EH) (C:CT):Prop:= ∀f e,H f=some e→ ∀D:ECT,CTR D C→ ∀args h n (k:EC) (K:Cont),(∀v h n,k v h n=true→K v h.get n)→e D args h n k=true→C f args h.get n K
theorem Jcj {fuel:Nat} {H:EH} {C:CT} (hB: ∀f args g n K,Je P C f args g n K→C f args g n K) (hH:HOk H C): ∀d,CTR (Jw P H fuel d) C
 | 0=>fun _ _ _ _ _ _ _ e=>by cases e
 | d+1=>fun f args h n k K hk e=>by
  simp only [Jw] at e
  cases hf:H f with
  | none=>rw [hf] at e;exact hB _ _ _ _ _ (XgS (Jcj hB hH d) f args h n k K hk e)
  | some x=>rw [hf] at e;exact hH f x hf _ (Jcj hB hH d) args h n k K hk e
end
end Go.Proofs.YtkdfaijmjmnhjaaGreat.Abs
namespace Go.Proofs.YtkdfaijmjmnhjaaGreat.Abs
open Go Go.RowKit
variable {P:Program}
def XeO:Value→Value→Bool
 | .agg xs,.agg ys=>Jeg xs.toList ys.toList
 | a,b=>XdR a b
theorem ZeC {a b:Value} (h:XeO a b=true):a=b:=by
 unfold XeO at h
 split at h
 ·rename_i xs ys
  have:=Xeq h
  cases xs;cases ys
  simp only at this
  rw [this]
 ·exact XcX h
def QeL:List Value→List Value→Bool
 | [],[]=>true
 | x::xs,y::ys=>XeO x y&&QeL xs ys
 | _,_=>false
theorem Zey: ∀{a b:List Value},QeL a b=true→a=b
 | [],[],_=>rfl
 | x::xs,y::ys,h=>by
  simp only [QeL,Bool.and_eq_true] at h
  rw [ZeC h.1,Zey h.2]
 | [],_::_,h=>by cases h
 | _::_,[],h=>by cases h
def Qam:Value→Value→Bool
 | .tuple xs,.tuple ys=>QeL xs.toList ys.toList
 | a,b=>XeO a b
theorem QfL {a b:Value} (h:Qam a b=true):a=b:=by
 unfold Qam at h
 split at h
 ·rename_i xs ys
  have:=Zey h
  cases xs;cases ys
  simp only at this
  rw [this]
 ·exact ZeC h
def XEH (P:Program) (H:EH) (X:XT):XT:=fun C f args g n K=>X C f args g n K∨
 ∃(v:Value) (fuel depth:Nat),plain 3 v=true∧args.all (plain 3)=true∧Jw P H fuel depth f args .nil 0 (fun v' _ _=>Qam v' v)=true∧ ∀n',K v g n'
theorem XfW {H:EH} {X:XT} (hX:ZdG X):ZdG (XEH P H X):=by
 rintro C C' hC f args g n K K' hk (h|⟨v,fuel,depth,h1,h2,h3,h4⟩)
 ·exact .inl (hX _ _ hC _ _ _ _ _ _ hk h)
 ·exact .inr ⟨v,fuel,depth,h1,h2,h3,fun n'=>hk _ _ _ (h4 n')⟩
theorem ZcY {μ μ':Mu}: ∀{xs ys:List Value},VRs μ xs ys→xs.all (plain 3)=true→VRs μ' xs ys
 | _,_,.nil,_=> .nil
 | _,_,.cons h hs,hp=>by
  simp only [List.all_cons,Bool.and_eq_true] at hp
  have:=Jch h 3 hp.1
  subst this
  exact .cons (QaH μ' 3 _ hp.1) (ZcY hs hp.2)
theorem XfB (hD: ∀B,XaA P B) {H:EH} {X:XT} (hX:XcP P X) (hH:HOk H (Jba P)):XcP P (XEH P H X):=by
 rintro f args g n K (h|⟨v,fuel,depth,h1,h2,h3,h4⟩) μ w B cargs hs hr
 ·exact hX _ _ _ _ _ h μ w B cargs hs hr
 have hx:Jba P f args (Tr.nil).get 0 (fun v' _ _=>v'=v):=Jcj (Zb7 hD) hH depth f args .nil 0 _ _ (fun v' h n e=>QfL e) h3
 have hc:=hx (fun _=>none) w w.heap.size cargs
  ⟨fun _ _ h=>by simp at h,fun _ _=>rfl,fun _ _ _ _ h=>by simp at h,fun _ _ _ _ _ _ _ _ _ _ h=>by simp at h,Nat.le_refl _⟩ (ZcY hr h2)
 have fin: ∀v' w',Fin w.heap.size w (fun _=>none) (fun v' _ _=>v'=v) v' w'→Fin B w μ K v' w':=by
  rintro v' w' ⟨v1,g1,n1,μ1,rfl,hv,_,_,hb⟩
  have hv:=Jch hv 3 h1
  subst hv
  refine ⟨_,g,n,μ,h4 n,QaH μ 3 _ h1,?_,Ext.refl _,?_⟩
  ·exact ⟨hs.dom,hs.gdom,fun l b m hg hm=>(hs.live l b m hg hm).mono (Ext.refl μ) (hb.block _ (hs.live l b m hg hm).lt),hs.inj,Nat.le_trans hs.base hb.size⟩
  ·exact hb.mono hs.base
 revert hc
 generalize (callFunc f cargs).run P w=r
 intro hc
 cases r with
 | ok x w'=>
  cases x<;>simp only [Upon] at hc ⊢ <;>first
   | exact fin _ _ hc
   | exact hc.elim
   | exact Calls.mono hc fun e w'' he=>by cases e<;>simp only [QfZ] at he ⊢ <;>exact fin _ _ he
   | exact Rows.mono hc fun v w'' he=>fin _ _ he
   | skip
 | halt x w'=>exact hc.elim
theorem QbC {f:FuncId} {fn:Func} {args:Array Value} {w:World} (hf:P.funcs[f]? =some fn) (hb:fn.body.isSome=true) (hn:(fn.name== "runtime.NumGoroutine")=false):(callFunc f args).run P w= .ok (.enter f args) w:=by
 obtain ⟨c,hb⟩:=Option.isSome_iff_exists.1 hb
 simp [callFunc,hf,hb]
 simp at hn
 simp [hn]
end Go.Proofs.YtkdfaijmjmnhjaaGreat.Abs
namespace Go.Proofs.YtkdfaijmjmnhjaaGreat.Abs
open Go Go.RowKit
variable {P:Program}
inductive XK where
 | ld (k:IntKind)
 | add (k:IntKind)
 | slow (Fs:List FuncId)
 | tab (t:List Value→Option Value)
 | look (r:List Value→G→Option (Value×Option (Nat×Nat×Value)))
abbrev Xfi:=FuncId→Option XK
def Zcj (k:IntKind) (args:List Value) (g:G) (n:Nat) (K:Cont):Prop:=
 match args with
 | [.pointer (some ⟨l,o,none⟩)]=>kLd g l o fun v=>match v with
  | .int k' x=>k'=k∧K (.int k' x) g n
  | _=>False
 | _=>False
def XdF (k:IntKind) (args:List Value) (g:G) (n:Nat) (K:Cont):Prop:=
 match args with
 | [.pointer (some ⟨l,o,none⟩),.int k2 y]=>k2=k∧kLd g l o fun v=>match v with
  | .int k' x=>k'=k∧kSt g l o (.int k (k.wrap (x+y))) fun g=>K (.int k (k.wrap (x+y))) g n
  | _=>False
 | _=>False
def QdK (C:CT) (Fs:List FuncId) (args:List Value) (g:G) (n:Nat) (K:Cont):Prop:=
 match args with
 | [.pointer (some ⟨l,o,none⟩),.func (.func F) us vs]=>F∈Fs∧kLd g l o (fun v=>v= .int .u32 0)∧kLd g l (o+1) (fun v=>v= .int .i32 0)∧kSt g l (o+1) (.int .i32 1) fun g1=>
   C F (us.toList++vs.toList) g1 n fun _ g2 n2=>kLd g2 l (o+1) (fun v=>v= .int .i32 1)∧kSt g2 l o (.int .u32 1) fun g3=>kSt g3 l (o+1) (.int .i32 0) fun g4=>K (.tuple #[]) g4 n2
 | _=>False
def QgH (t:List Value→Option Value) (args:List Value) (g:G) (n:Nat) (K:Cont):Prop:=
 match t args with
 | some v=>K v g n
 | none=>False
def Zc9 (r:List Value→G→Option (Value×Option (Nat×Nat×Value))) (args:List Value) (g:G) (n:Nat) (K:Cont):Prop:=
 match r args g with
 | some (v,none)=>K v g n
 | some (v,some (l,o,x))=>kSt g l o x fun g=>K v g n
 | none=>False
def XF (T:Xfi):XT:=fun C f args g n K=>
 match T f with
 | some (.ld k)=>Zcj k args g n K
 | some (.add k)=>XdF k args g n K
 | some (.slow Fs)=>QdK C Fs args g n K
 | some (.tab t)=>QgH t args g n K
 | some (.look r)=>Zc9 r args g n K
 | none=>False
def Jgo (P:Program) (slow F:FuncId):Prop:= ∀(b off:Nat) (us vs:Array Value) (w:World) (R:Ending→World→Prop),
 w.cell? ⟨b,off,none⟩=some (.int .u32 0)→w.cell? ⟨b,off+1,none⟩=some (.int .i32 0)→w.frozen? ⟨b,off+1,none⟩=false→
 (Calls P F (us++ #[]++vs) (w.setCell ⟨b,off+1,none⟩ (.int .i32 1)) fun e w2=>(∃v,e= .returned v)∧(∃x,w2.cell? ⟨b,off,none⟩=some x)∧w2.frozen? ⟨b,off,none⟩=false∧
   w2.cell? ⟨b,off+1,none⟩=some (.int .i32 1)∧w2.frozen? ⟨b,off+1,none⟩=false∧R (.returned (.tuple #[])) ((w2.drew.setCell ⟨b,off,none⟩ (.int .u32 1)).setCell ⟨b,off+1,none⟩ (.int .i32 0)))→
 Calls P slow #[.pointer (some ⟨b,off,none⟩),.func (.func F) us vs] w R
structure Jeb (P:Program) (f:FuncId):Prop where
 ex: ∃fn,P.funcs[f]? =some fn∧fn.body.isSome=true∧(fn.name== "runtime.NumGoroutine")=false
structure Xd6 (P:Program) (f:FuncId) (e:Array Value→Sem Value):Prop where
 ex: ∃fn,P.funcs[f]? =some fn∧(fn.name== "runtime.NumGoroutine")=false∧fn.body.isNone=true∧Extern.findNext fn=none∧Extern.find fn=some e
def Xht (P:Program) (f:FuncId):XK→Prop
 | .ld k=>Xd6 P f (Extern.Atomic.loadT (.int k))
 | .add k=>Xd6 P f (Extern.Atomic.update (Op.intArith .add) k true)
 | .slow Fs=>Jeb P f∧ ∀F∈Fs,Jeb P F∧Jgo P f F
 | .tab t=> ∀args v g n K,t args=some v→K v g n→Jba P f args g n K
 | .look r=> ∀args g n K,Zc9 r args g n K→Jba P f args g n K
def Xg5 (P:Program) (T:Xfi):Prop:= ∀f k,T f=some k→Xht P f k
theorem Jes {k:IntKind} {args:List Value} {g:G} {n:Nat} {K K':Cont} (hk: ∀v g n,K v g n→K' v g n) (h:Zcj k args g n K):Zcj k args g n K':=by
 unfold Zcj at*
 split at h
 ·refine QcN (fun v h=> ?_) h
  split at h
  ·exact ⟨h.1,hk _ _ _ h.2⟩
  ·exact h.elim
 ·exact h.elim
theorem Je5 {k:IntKind} {args:List Value} {g:G} {n:Nat} {K K':Cont} (hk: ∀v g n,K v g n→K' v g n) (h:XdF k args g n K):XdF k args g n K':=by
 unfold XdF at*
 split at h
 ·refine ⟨h.1,QcN (fun v h=> ?_) h.2⟩
  split at h
  ·exact ⟨h.1,JbP (fun _=>hk _ _ _) h.2⟩
  ·exact h.elim
 ·exact h.elim
theorem Qfg {C C':CT} (hC:CLe C C') {Fs:List FuncId} {args:List Value} {g:G} {n:Nat} {K K':Cont} (hk: ∀v g n,K v g n→K' v g n) (h:QdK C Fs args g n K):QdK C' Fs args g n K':=by
 unfold QdK at*
 split at h
 ·obtain ⟨h1,h2,h3,h4⟩:=h
  exact ⟨h1,h2,h3,JbP (fun g h=>hC _ _ _ _ _ _ (fun _ g2 n2 h=>⟨h.1,JbP (fun g3 h=>JbP (fun g4 h=>hk _ _ _ h) h) h.2⟩) h) h4⟩
 ·exact h.elim
theorem XfQ {t:List Value→Option Value} {args:List Value} {g:G} {n:Nat} {K K':Cont} (hk: ∀v g n,K v g n→K' v g n) (h:QgH t args g n K):QgH t args g n K':=by
 unfold QgH at*
 split at h
 ·exact hk _ _ _ h
 ·exact h.elim
theorem Zfc {r:List Value→G→Option (Value×Option (Nat×Nat×Value))} {args:List Value} {g:G} {n:Nat} {K K':Cont} (hk: ∀v g n,K v g n→K' v g n) (h:Zc9 r args g n K):Zc9 r args g n K':=by
 unfold Zc9 at*
 split at h
 ·exact hk _ _ _ h
 ·exact JbP (fun g h=>hk _ _ _ h) h
 ·exact h.elim
theorem ZgI (T:Xfi):ZdG (XF T):=by
 intro C C' hC f args g n K K' hk h
 unfold XF at*
 split at h
 ·exact Jes hk h
 ·exact Je5 hk h
 ·exact Qfg hC hk h
 ·exact XfQ hk h
 ·exact Zfc hk h
 ·exact h.elim
section
variable {g:G} {n:Nat} {K:Cont} {f:FuncId} {args:List Value}
theorem Zht {μ:Mu} {x:Value} {c:Array Value} (h:VRs μ [x] c.toList): ∃x',c= #[x']∧VR μ x x':=by
 generalize hl:c.toList=l at h
 cases h with
 | cons h1 h2=>
  cases h2
  exact ⟨_,by apply Array.ext';rw [hl],h1⟩
theorem Jhd {μ:Mu} {x y:Value} {c:Array Value} (h:VRs μ [x,y] c.toList): ∃x' y',c= #[x',y']∧VR μ x x'∧VR μ y y':=by
 generalize hl:c.toList=l at h
 cases h with
 | cons h1 h2=>
  cases h2 with
  | cons h3 h4=>
   cases h4
   exact ⟨_,_,by apply Array.ext';rw [hl],h1,h3⟩
theorem Jc2 {l o:Nat} {J:Value→Prop} (h:kLd g l o J): ∃cs k v,g l=some (.cells cs k)∧cs[o]? =some v∧J v:=by
 obtain ⟨cs,k,h1,h2⟩:=JO h
 obtain ⟨v,h3,h4⟩:=Zbo h2
 exact ⟨cs,k,v,h1,h3,h4⟩
theorem Qc1 {l o:Nat} {v:Value} {J:G→Prop} (h:kSt g l o v J): ∃cs k,g l=some (.cells cs k)∧k.rw=true∧o<cs.length∧J (upd g l (some (.cells (cs.set o v) k))):=by
 obtain ⟨cs,k,h1,h2,h3,_,h4⟩:=JO h
 exact ⟨cs,k,h1,h2,h3,h4⟩
theorem Qgk {k:IntKind} (ht:Xd6 P f (Extern.Atomic.loadT (.int k))) (h:Zcj k args g n K):Jba P f args g n K:=by
 intro μ w B cargs hs hr
 obtain ⟨fn,h1,h2,h3,h4,h5⟩:=ht.ex
 unfold Zcj at h
 split at h
 ·rename_i l o
  obtain ⟨x',rfl,hx⟩:=Zht hr
  cases hx with
  | @ptr _ m _ hm=>
   obtain ⟨cs,bk,v,hg,hv,hq⟩:=Jc2 h
   split at hq
   ·obtain ⟨rfl,hq⟩:=hq
    obtain ⟨v',hc,hvr⟩:=hs.load hg hm hv
    cases hvr
    rw [run_call_load h1 h2 h3 h4 _ h5 hc]
    exact Xk hs (.int _ _) hq
   ·exact hq.elim
 ·exact h.elim
theorem JgN {k:IntKind} (ht:Xd6 P f (Extern.Atomic.update (Op.intArith .add) k true)) (h:XdF k args g n K):Jba P f args g n K:=by
 intro μ w B cargs hs hr
 obtain ⟨fn,h1,h2,h3,h4,h5⟩:=ht.ex
 unfold XdF at h
 split at h
 ·rename_i l o k2 y
  obtain ⟨x',y',rfl,hx,hy⟩:=Jhd hr
  cases hy
  obtain ⟨rfl,h⟩:=h
  cases hx with
  | @ptr _ m _ hm=>
   obtain ⟨cs,bk,v,hg,hv,h⟩:=Jc2 h
   split at h
   ·rename_i k' x
    obtain ⟨rfl,h⟩:=h
    obtain ⟨v',hc,hvr⟩:=hs.load hg hm hv
    cases hvr
    obtain ⟨cs',bk',hg',hrw,hlt,h⟩:=Qc1 h
    rw [hg] at hg';cases hg'
    obtain ⟨_,hz,hs',hb⟩:=hs.store hg hm hlt hrw (.int _ (IntKind.wrap _ (x+y)))
    rw [run_call_add h1 h2 h3 h4 _ h5 hc hz (by simp [go_sem];rfl)]
    exact ⟨_,_,n,μ,h,.int _ _,hs',Ext.refl μ,hb⟩
   ·exact h.elim
 ·exact h.elim
theorem Jf4 {Fs:List FuncId} (hb:Jeb P f) (hF: ∀F∈Fs,Jeb P F∧Jgo P f F) (h:QdK (Jba P) Fs args g n K):Jba P f args g n K:=by
 intro μ w B cargs hs hr
 obtain ⟨fn,b1,b2,b3⟩:=hb.ex
 unfold QdK at h
 split at h
 ·rename_i l o F us vs
  obtain ⟨x',y',rfl,hx,hy⟩:=Jhd hr
  obtain ⟨hmem,h0,h1,h⟩:=h
  obtain ⟨hbF,hok⟩:=hF F hmem
  cases hy with
  | @func _ _ _ us' vs' e1 e2 r1 r2=>
  cases hx with
  | @ptr _ m _ hm=>
   obtain ⟨cs,bk,v,hg,hv,rfl⟩:=Jc2 h0
   obtain ⟨v0,hc0,hvr⟩:=hs.load hg hm hv
   cases hvr
   obtain ⟨cs',bk',v,hg',hv',rfl⟩:=Jc2 h1
   rw [hg] at hg';cases hg'
   obtain ⟨v1,hc1,hvr⟩:=hs.load hg hm hv'
   cases hvr
   obtain ⟨cs',bk',hg',hrw,hlt,h⟩:=Qc1 h
   rw [hg] at hg';cases hg'
   obtain ⟨_,hz,hs1,hb1⟩:=hs.store hg hm hlt hrw (.int .i32 1)
   rw [QbC b1 b2 b3]
   show Calls P f _ w (QfZ B w μ K)
   refine hok _ _ _ _ _ _ hc0 hc1 hz ?_
   obtain ⟨fF,f1,f2,f3⟩:=hbF.ex
   have hvrs:VRs μ (us.toList++vs.toList) (us'++ #[]++vs').toList:=by
    rw [Array.toList_append,Array.toList_append,List.append_nil]
    exact (VRs.of_get (by simpa using e1) fun i x y hx hy=>r1 i x y (by simpa using hx) (by simpa using hy)).append (VRs.of_get (by simpa using e2) fun i x y hx hy=>r2 i x y (by simpa using hx) (by simpa using hy))
   have hcb:=h μ _ B _ hs1 hvrs
   rw [QbC f1 f2 f3] at hcb
   refine Calls.mono hcb fun e w2 he=> ?_
   cases e with
   | panicked c=>exact he.elim
   | outgrown=>exact he.elim
   | returned v=>
    obtain ⟨_,g2,n2,μ2,⟨hk1,hk⟩,_,hs2,hx2,hb2⟩:=he
    have hm2:=hx2 _ _ hm
    obtain ⟨cs2,bk2,_,hg2,hv2,rfl⟩:=Jc2 hk1
    obtain ⟨u1,hc2,hvr⟩:=hs2.load hg2 hm2 hv2
    cases hvr
    obtain ⟨cs',bk',hg',hrw2,hlt2,hk⟩:=Qc1 hk
    rw [hg2] at hg';cases hg'
    obtain ⟨hd,hz2,hs3,hb3⟩:=hs2.drew.store hg2 hm2 hlt2 hrw2 (.int .u32 1)
    obtain ⟨cs3,bk3,hg3,hrw3,hlt3,hk⟩:=Qc1 hk
    obtain ⟨_,hz3,hs4,hb4⟩:=hs3.store hg3 hm2 hlt3 hrw3 (.int .i32 0)
    have hz4:w2.frozen? ⟨m.b,m.s+(o+1),none⟩=false:=by
     have ho1:o+1<cs2.length:=(List.getElem?_eq_some_iff.1 hv2).1
     exact (hs2.store hg2 hm2 ho1 hrw2 (.int .i32 0)).2.1
    refine ⟨⟨_,rfl⟩,?_,?_,hc2,hz4,?_⟩
    ·obtain ⟨u,hu⟩:=hd;exact ⟨u,by simpa using hu⟩
    ·simpa using hz2
    ·exact ⟨_,_,n2,μ2,hk,.tuple rfl (by intro i x y hx;simp at hx),hs4,hx2,(hb1.trans hb2).trans (((Below.refl B w2).drew.trans hb3).trans hb4)⟩
 ·exact h.elim
end
theorem XdA {T:Xfi} (hT:Xg5 P T):XcP P (XF T):=by
 intro f args g n K h
 unfold XF at h
 split at h
 ·rename_i k hk;exact Qgk (hT _ _ hk) h
 ·rename_i k hk;exact JgN (hT _ _ hk) h
 ·rename_i k hk;exact Jf4 (hT _ _ hk).1 (hT _ _ hk).2 h
 ·rename_i t hk
  unfold QgH at h
  split at h
  ·rename_i v hv;exact hT _ _ hk _ _ _ _ _ hv h
  ·exact h.elim
 ·rename_i r hk;exact hT _ _ hk _ _ _ _ h
 ·exact h.elim
def Zhh (args:List Value):Option Value:=match args with
 | [.string s,.int .u8 c]=>some (match (List.range s.size).find? (fun i=>s[i]! ==c.toNat.toUInt8) with|some i=> .int .i64 i|none=> .int .i64 (-1))
 | _=>none
theorem Zgv {f:FuncId} (ht:Xd6 P f Extern.BytealgIndexByte.indexByte): ∀args v g n K,Zhh args=some v→K v g n→Jba P f args g n K:=by
 intro args v g n K h hk μ w B cargs hs hr
 obtain ⟨fn,h1,h2,h3,h4,h5⟩:=ht.ex
 unfold Zhh at h
 split at h
 ·rename_i s c
  obtain ⟨x',y',rfl,hx,hy⟩:=Jhd hr
  cases hx;cases hy
  cases h
  rw [run_callFunc_extern h1 h2 h3 h4 h5]
  have e:(Extern.BytealgIndexByte.indexByte #[.string s,.int .u8 c]).run P w= .ok (match (List.range s.size).find? (fun i=>s[i]! ==c.toNat.toUInt8) with|some i=> .int .i64 i|none=> .int .i64 (-1)) w:=by
   show Sem.run P (match (List.range s.size).find? (fun i=>s[i]! ==c.toNat.toUInt8) with|some i=>pure (goInt i)|none=>pure (goInt (-1))) w=_
   generalize (List.range s.size).find? (fun i=>s[i]! ==c.toNat.toUInt8)=o
   cases o<;>rfl
  rw [e]
  refine Xk hs ?_ hk
  split<;>exact .int _ _
 ·cases h
def Jgm (k:IntKind) (_:ECT) (args:List Value) (h:Tr) (n:Nat) (K:EC):Bool:=
 match args with
 | [.pointer (some ⟨l,o,none⟩)]=>eLd h l o fun v=>match v with
  | .int k' x=>decide (k'=k)&&K (.int k' x) h n
  | _=>false
 | _=>false
def Xhb (k:IntKind) (_:ECT) (args:List Value) (h:Tr) (n:Nat) (K:EC):Bool:=
 match args with
 | [.pointer (some ⟨l,o,none⟩),.int k2 y]=>decide (k2=k)&&eLd h l o fun v=>match v with
  | .int k' x=>decide (k'=k)&&QdM (k.wrap (x+y)) fun i=>eSt h l o (.int k i) fun h=>K (.int k i) h n
  | _=>false
 | _=>false
def Qg1 (Fs:List FuncId) (D:ECT) (args:List Value) (h:Tr) (n:Nat) (K:EC):Bool:=
 match args with
 | [.pointer (some ⟨l,o,none⟩),.func (.func F) us vs]=>Fs.contains F&&(eLd h l o (fun v=>XdR v (.int .u32 0))&&(eLd h l (o+1) (fun v=>XdR v (.int .i32 0))&&eSt h l (o+1) (.int .i32 1) fun h1=>
   D F (us.toList++vs.toList) h1 n fun _ h2 n2=>eLd h2 l (o+1) (fun v=>XdR v (.int .i32 1))&&eSt h2 l o (.int .u32 1) fun h3=>eSt h3 l (o+1) (.int .i32 0) fun h4=>K (.tuple #[]) h4 n2))
 | _=>false
def Xho (t:List Value→Option Value) (_:ECT) (args:List Value) (h:Tr) (n:Nat) (K:EC):Bool:=
 match t args with
 | some v=>K v h n
 | none=>false
def Xg8 (r:List Value→G→Option (Value×Option (Nat×Nat×Value))) (_:ECT) (args:List Value) (h:Tr) (n:Nat) (K:EC):Bool:=
 match r args h.get with
 | some (v,none)=>K v h n
 | some (v,some (l,o,x))=>eSt h l o x fun h=>K v h n
 | none=>false
def HT (T:Xfi):EH:=fun f=>match T f with
 | some (.ld k)=>some (Jgm k)
 | some (.add k)=>some (Xhb k)
 | some (.slow Fs)=>some (Qg1 Fs)
 | some (.tab t)=>some (Xho t)
 | some (.look r)=>some (Xg8 r)
 | none=>none
theorem Qg9 {T:Xfi} {C:CT} (hC: ∀f args g n K,XF T C f args g n K→C f args g n K):HOk (HT T) C:=by
 intro f e hf D hD args h n k K hk he
 refine hC _ _ _ _ _ ?_
 unfold HT at hf
 unfold XF
 cases ht:T f with
 | none=>rw [ht] at hf;cases hf
 | some x=>
  rw [ht] at hf
  cases x with
  | ld kd=>
   cases hf
   unfold Jgm at he
   show Zcj _ _ _ _ _
   unfold Zcj
   split at he
   ·refine Jej (fun v e=> ?_) he
    split at e
    ·simp only [Bool.and_eq_true,decide_eq_true_eq] at e;exact ⟨e.1,hk _ _ _ e.2⟩
    ·cases e
   ·cases he
  | add kd=>
   cases hf
   unfold Xhb at he
   show XdF _ _ _ _ _
   unfold XdF
   split at he
   ·simp only [Bool.and_eq_true,decide_eq_true_eq] at he
    refine ⟨he.1,Jej (fun v e=> ?_) he.2⟩
    split at e
    ·simp only [Bool.and_eq_true,decide_eq_true_eq,Qcy] at e
     exact ⟨e.1,Xe2 (fun h e=>hk _ _ _ e) e.2⟩
    ·cases e
   ·cases he
  | slow Fs=>
   cases hf
   unfold Qg1 at he
   show QdK _ _ _ _ _ _
   unfold QdK
   split at he
   ·simp only [Bool.and_eq_true] at he
    obtain ⟨h1,h2,h3,h4⟩:=he
    refine ⟨by simpa using h1,Jej (fun v e=>XcX e) h2,Jej (fun v e=>XcX e) h3,Xe2 (fun h5 e=>hD _ _ _ _ _ _ (fun v6 h6 n6 e=> ?_) e) h4⟩
    simp only [Bool.and_eq_true] at e
    exact ⟨Jej (fun v e=>XcX e) e.1,Xe2 (K:=fun g=>kSt g _ _ _ _) (fun h7 e=>Xe2 (fun h8 e=>hk _ _ _ e) e) e.2⟩
   ·cases he
  | tab t=>
   cases hf
   unfold Xho at he
   show QgH _ _ _ _ _
   unfold QgH
   split at he
   ·exact hk _ _ _ he
   ·cases he
  | look r=>
   cases hf
   unfold Xg8 at he
   show Zc9 _ _ _ _ _
   unfold Zc9
   split at he
   ·exact hk _ _ _ he
   ·exact Xe2 (fun h e=>hk _ _ _ e) he
   ·cases he
def XP (P:Program) (T:Xfi):XT:=XEH P (HT T) (XF T)
theorem XgJ (T:Xfi):ZdG (XP P T):=XfW (ZgI T)
theorem Zf0 (hD: ∀B,XaA P B) {T:Xfi} (hT:Xg5 P T):XcP P (XP P T):=XfB hD (XdA hT) (Qg9 (XdA hT))
end Go.Proofs.YtkdfaijmjmnhjaaGreat.Abs
namespace Go.Proofs.YtkdfaijmjmnhjaaGreat.Abs
open Go Go.RowKit
variable {P:Program}
def isU64:Value→Bool| .int .u64 _=>true|_=>false
theorem Xe8 {v:Value} (h:isU64 v=true):isCell v=true:=by unfold isU64 at h;split at h<;>first|rfl|cases h
theorem XfU {v:Value} (h:isU64 v=true): ∃z,v= .int .u64 z:=by unfold isU64 at h;split at h<;>first|exact ⟨_,rfl⟩|cases h
def Jdd (es:List Value) (o:Nat):Option (Int×List Value):=
 if o+9≤es.length∧((es.drop (o+1)).take 8).all isU64=true then match es[o]? with
  | some (.int .i64 y)=>some (y,(es.drop (o+1)).take 8)
  | _=>none
 else none
def JeS (es:List Value) (os:Nat) (x:Int):Nat→Option (Option (List Value))
 | 0=>some none
 | k+1=>match Jdd es (os+k*9) with
  | some (y,d)=>match JeS es os x k with
   | some r=>if y=x then some (some d) else some r
   | none=>none
  | none=>none
def Je8 (g:G) (a:Option Addr) (len:Nat) (x:Int):Option (Option (List Value)):=
 if len=0 then some none else if len<1099511627776 then match a with
  | some ⟨ls,os,none⟩=>match g ls with
   | some (.cells es _)=>JeS es os x len
   | _=>none
  | _=>none
 else none
def ZgF (ld od:Nat) (x:Int) (g:G):Option (Value×Option (Nat×Nat×Value)):=
 match g ld with
 | some (.cells ds _)=>match ds[od]?,ds[od+2]? with
  | some (.slice (some ⟨ll,ol,none⟩) m _),some (.int .i64 r)=>
   if 0≤x∧x<m∧ll≠ld∧m<1099511627776 then match g ll with
    | some (.cells ws _)=>if ol+x.toNat*8+8≤ws.length∧((ws.drop (ol+x.toNat*8)).take 8).all isU64=true then
      some (.tuple #[.agg ((ws.drop (ol+x.toNat*8)).take 8).toArray,.int .i64 0],some (ld,od+2,.int .i64 (IntKind.wrap .i64 (r+1))))
     else none
    | _=>none
   else none
  | _,_=>none
 | _=>none
def JeY (args:List Value) (g:G):Option (Value×Option (Nat×Nat×Value)):=
 match args with
 | [.pointer (some ⟨l,o,none⟩),.int .i64 x]=>match g l with
  | some (.cells cs _)=>match cs[o]?,cs[o+2]? with
   | some (.pointer (some ⟨ld,od,none⟩)),some (.slice a len _)=>match Je8 g a len x with
    | some (some d)=>some (.tuple #[.agg d.toArray,.int .i64 0],none)
    | some none=>ZgF ld od x g
    | none=>none
   | _,_=>none
  | _=>none
 | _=>none
def QeN (E:Nat→Value):Value:= .agg #[E 0,E 1,E 2,E 3,E 4,E 5,E 6,E 7]
def Xgm (P:Program) (f:FuncId):Prop:= ∀(b off db dof sb so len cap:Nat) (a:Option Addr) (x:Int) (L:Nat→Int) (E:Nat→Nat→Value) (w:World) (R:Ending→World→Prop),
 w.cell? ⟨b,off,none⟩=some (.pointer (some ⟨db,dof,none⟩))→w.cell? ⟨b,off+2,none⟩=some (.slice a len cap)→(0<len→a=some ⟨sb,so,none⟩)→len<1099511627776→
 (∀j,j<len→w.cell? ⟨sb,so+j*9,none⟩=some (.int .i64 (L j)))→(∀j i,j<len→i<8→w.cell? ⟨sb,so+j*9+1+i,none⟩=some (E j i))→(∀j i,isU64 (E j i)=true)→
 (∀k,k<len→L k=x→(∀j,k<j→j<len→L j≠x)→ ∀w1,Below w.heap.size w w1→R (.returned (.tuple #[QeN (E k),.int .i64 0])) w1)→
 ((∀j,j<len→L j≠x)→ ∃(lb lo m c:Nat) (r:Int) (W:Nat→Value),lb≠db∧w.cell? ⟨db,dof,none⟩=some (.slice (some ⟨lb,lo,none⟩) m c)∧0≤x∧x<m∧m<1099511627776∧
  (∀i,i<8→w.cell? ⟨lb,lo+x.toNat*8+i,none⟩=some (W i))∧(∀i,isU64 (W i)=true)∧w.cell? ⟨db,dof+2,none⟩=some (.int .i64 r)∧w.frozen? ⟨db,dof+2,none⟩=false∧
  ∀w1 w2,Below w.heap.size w w1→Below w.heap.size (w1.setCell ⟨db,dof+2,none⟩ (.int .i64 (IntKind.wrap .i64 (r+1)))) w2→R (.returned (.tuple #[QeN W,.int .i64 0])) w2)→
 Calls P f #[.pointer (some ⟨b,off,none⟩),.int .i64 x] w R
section
variable {es:List Value} {os:Nat} {x:Int}
theorem QcU {o:Nat} {y:Int} {d:List Value} (h:Jdd es o=some (y,d)):o+9≤es.length∧es[o]? =some (.int .i64 y)∧d=(es.drop (o+1)).take 8∧d.all isU64=true:=by
 unfold Jdd at h
 split at h
 ·rename_i hl
  split at h
  ·rename_i z hz
   cases h
   exact ⟨hl.1,hz,rfl,hl.2⟩
  ·cases h
 ·cases h
theorem JdW: ∀(k:Nat) (r:Option (List Value)),JeS es os x k=some r→(∀j,j<k→ ∃y d,Jdd es (os+j*9)=some (y,d))∧
  (match r with
   | none=> ∀j y d,j<k→Jdd es (os+j*9)=some (y,d)→y≠x
   | some d=> ∃i,i<k∧Jdd es (os+i*9)=some (x,d)∧ ∀j y d,i<j→j<k→Jdd es (os+j*9)=some (y,d)→y≠x)
 | 0,r,h=>by
  cases h
  exact ⟨fun j hj=>absurd hj (by omega),fun j _ _ hj=>absurd hj (by omega)⟩
 | k+1,r,h=>by
  simp only [JeS] at h
  split at h
  ·rename_i y d he
   split at h
   ·rename_i r' hr'
    obtain ⟨h1,h2⟩:=JdW k r' hr'
    refine ⟨fun j hj=> ?_,?_⟩
    ·by_cases hjk:j=k
     ·subst hjk;exact ⟨_,_,he⟩
     ·exact h1 j (by omega)
    ·split at h
     ·rename_i hyx
      subst hyx
      cases h
      exact ⟨k,by omega,he,fun j y d hj hjk=>absurd hjk (by omega)⟩
     ·rename_i hyx
      cases h
      cases r with
      | none=>
       intro j y' d' hj hjd
       by_cases hjk:j=k
       ·subst hjk;rw [he] at hjd;cases hjd;exact hyx
       ·exact h2 j y' d' (by omega) hjd
      | some d0=>
       obtain ⟨i,hi,hid,hl⟩:=h2
       refine ⟨i,by omega,hid,fun j y' d' hj hjk' hjd=> ?_⟩
       by_cases hjk:j=k
       ·subst hjk;rw [he] at hjd;cases hjd;exact hyx
       ·exact hl j y' d' hj (by omega) hjd
   ·cases h
  ·cases h
end
section
variable {g:G} {n:Nat} {K:Cont} {f:FuncId} {args:List Value} {μ:Mu} {w:World} {B:Nat}
def orZ (o:Option Value):Value:=match o with|some v=>if isU64 v=true then v else .int .u64 0|none=> .int .u64 0
theorem ZeG (o:Option Value):isU64 (orZ o)=true:=by
 unfold orZ;split
 ·split
  ·assumption
  ·rfl
 ·rfl
theorem VR.isU64 {v v':Value} (h:VR μ v v'):Go.Proofs.YtkdfaijmjmnhjaaGreat.Abs.isU64 v'=Go.Proofs.YtkdfaijmjmnhjaaGreat.Abs.isU64 v:=by cases h<;>rfl
theorem JcN {v:Value} (h:isU64 v=true):orZ (some v)=v:=by simp [orZ,h]
theorem Sim.below {w':World} (h:Sim μ g n w B) (hb:Below w.heap.size w w'):Sim μ g n w' B:=
 ⟨h.dom,h.gdom,fun l b m e f=>(h.live l b m e f).mono (Ext.refl μ) (hb.block _ (h.live l b m e f).lt),h.inj,Nat.le_trans h.base hb.size⟩
theorem Jfw {ds:List Value} {E:Nat→Value} (hl:ds.length=8) (h: ∀(i:Nat) (v:Value),ds[i]? =some v→i<8→VR μ v (E i)):VR μ (.agg ds.toArray) (QeN E):=by
 refine .agg (by simp [hl]) fun i x y hx hy=> ?_
 have hi:i<8:=by
  have:=(Array.getElem?_eq_some_iff.1 hy).1;simpa using this
 have hv:=h i x (by simpa using hx) hi
 match i,hi with
 | 0,_=>cases hy;exact hv
 | 1,_=>cases hy;exact hv
 | 2,_=>cases hy;exact hv
 | 3,_=>cases hy;exact hv
 | 4,_=>cases hy;exact hv
 | 5,_=>cases hy;exact hv
 | 6,_=>cases hy;exact hv
 | 7,_=>cases hy;exact hv
theorem Xfl {v v':Value} (h:VR μ v v'):VR μ (.tuple #[v,.int .i64 0]) (.tuple #[v',.int .i64 0]):=by
 refine .tuple rfl fun i x y hx hy=> ?_
 match i with
 | 0=>cases hx;cases hy;exact h
 | 1=>cases hx;cases hy;exact .int _ _
 | i+2=>simp at hx
theorem Xf8 (hb:Jeb P f) (hok:Xgm P f) (h:Zc9 JeY args g n K):Jba P f args g n K:=by
 intro μ w B cargs hs hr
 obtain ⟨fn,b1,b2,b3⟩:=hb.ex
 have hrr: ∃q,JeY args g=some q∧(match q with|(v,none)=>K v g n|(v,some (l,o,x))=>kSt g l o x fun g=>K v g n):=by
  unfold Zc9 at h
  split at h
  ·rename_i v hv;exact ⟨_,hv,h⟩
  ·rename_i v l o x hv;exact ⟨_,hv,h⟩
  ·exact h.elim
 clear h
 obtain ⟨q,hq,hK⟩:=hrr
 unfold JeY at hq
 split at hq
 ·rename_i l o x
  split at hq
  ·rename_i cs bk hg
   split at hq
   ·rename_i ld od a len c hd hsl
    obtain ⟨x',y',rfl,hx,hy⟩:=Jhd hr
    cases hy
    cases hx with
    | @ptr _ m _ hm=>
    rw [QbC b1 b2 b3]
    show Calls P f _ w (QfZ B w μ K)
    obtain ⟨dv,hdc,hdr⟩:=hs.load hg hm hd
    obtain ⟨sv,hsc,hsr⟩:=hs.load hg hm hsl
    cases hdr with
    | @ptr _ md _ hmd=>
    have hslice: ∃(a':Option Addr) (c':Nat),sv= .slice a' len c'∧(0<len→ ∀ls os,a=some ⟨ls,os,none⟩→ ∃m,μ ls=some m∧a'=some ⟨m.b,m.s+os,none⟩):=by
     cases hsr with
     | nilslice=>exact ⟨_,_,rfl,fun h=>absurd h (by omega)⟩
     | @slx l m o n c a' hc hn hm ha=>
      refine ⟨_,_,rfl,fun hlen ls os e=> ?_⟩
      cases e
      rcases ha with ha|ha
      ·exact ⟨m,hm,by rw [ha]⟩
      ·omega
     | @sll l m o j n c o' hm h1 h2 h3 h4=>
      refine ⟨_,_,rfl,fun hlen ls os e=> ?_⟩
      cases e
      rcases h4 with h4|h4
      ·exact ⟨m,hm,by rw [h4]⟩
      ·omega
    obtain ⟨a',c',rfl,hsl'⟩:=hslice
    clear hsr
    have hfind: ∃r,Je8 g a len x=some r∧(match r with|some d=>q=(.tuple #[.agg d.toArray,.int .i64 0],none)|none=>ZgF ld od x g=some q):=by
     split at hq
     ·rename_i d hf;cases hq;exact ⟨_,hf,rfl⟩
     ·rename_i hf;exact ⟨_,hf,hq⟩
     ·cases hq
    clear hq
    obtain ⟨r,hf,hr2⟩:=hfind
    have hent:len<1099511627776∧ ∃(sb so:Nat) (L:Nat→Int) (E:Nat→Nat→Value),(0<len→a'=some ⟨sb,so,none⟩)∧(∀j,j<len→w.cell? ⟨sb,so+j*9,none⟩=some (.int .i64 (L j)))∧
      (∀j i,j<len→i<8→w.cell? ⟨sb,so+j*9+1+i,none⟩=some (E j i))∧(∀j i,isU64 (E j i)=true)∧
      (match r with
       | none=>True
       | some d=> ∀k,k<len→L k=x→(∀j,k<j→j<len→L j≠x)→VR μ (.agg d.toArray) (QeN (E k)))∧
      ((∀j,j<len→L j≠x)→r=none)∧((∃k,k<len∧L k=x)→r≠none):=by
     unfold Je8 at hf
     split at hf
     ·rename_i h0
      cases hf
      subst h0
      exact ⟨by omega,0,0,fun _=>0,fun _ _=> .int .u64 0,fun h=>absurd h (by omega),fun j hj=>absurd hj (by omega),fun j _ hj=>absurd hj (by omega),fun _ _=>rfl,trivial,fun _=>rfl,fun ⟨k,hk,_⟩=>absurd hk (by omega)⟩
     ·rename_i h0
      split at hf
      ·rename_i hlt
       split at hf
       ·rename_i ls os _
        split at hf
        ·rename_i es ek hge
         obtain ⟨ms,hms,ha'⟩:=hsl' (by omega) _ _ rfl
         obtain ⟨hall,hres⟩:=JdW _ _ hf
         refine ⟨hlt,ms.b,ms.s+os,fun j=>match Jdd es (os+j*9) with|some (y,_)=>y|none=>0,fun j i=>orZ (w.cell? ⟨ms.b,ms.s+os+j*9+1+i,none⟩),fun _=>ha',?_,?_,fun _ _=>ZeG _,?_,?_,?_⟩
         ·intro j hj
          obtain ⟨y,d,he⟩:=hall j hj
          simp only [he]
          obtain ⟨_,h2,_,_⟩:=QcU he
          obtain ⟨v',hv,hvr⟩:=hs.load hge hms h2
          cases hvr
          rw [←hv,Nat.add_assoc]
         ·intro j i hj hi
          obtain ⟨y,d,he⟩:=hall j hj
          obtain ⟨h1,_,hd',hdc⟩:=QcU he
          have hcl:isU64 (es[os+j*9+1+i]'(by omega))=true:=by
           subst hd'
           refine List.all_eq_true.1 hdc _ (List.mem_of_getElem? (i:=i) ?_)
           rw [List.getElem?_take,if_pos hi,List.getElem?_drop,List.getElem?_eq_getElem (by omega)]
          obtain ⟨v',hv,hvr⟩:=hs.load (o:=os+j*9+1+i) hge hms (List.getElem?_eq_getElem (by omega))
          have e:ms.s+(os+j*9+1+i)=ms.s+os+j*9+1+i:=by omega
          rw [e] at hv
          show _=some (orZ (w.cell? ⟨ms.b,ms.s+os+j*9+1+i,none⟩))
          rw [hv,JcN (hvr.isU64.trans hcl)]
         ·cases r with
          | none=>trivial
          | some d=>
           intro k hk hLk hlast
           obtain ⟨i0,hi0,he0,hl0⟩:=hres
           have hki:k=i0:=by
            obtain ⟨y,d',he⟩:=hall k hk
            simp only [he] at hLk
            subst hLk
            rcases Nat.lt_trichotomy k i0 with hlt'|heq|hgt
            ·have:=hlast i0 hlt' hi0
             simp only [he0] at this
             exact absurd rfl this
            ·exact heq
            ·exact absurd rfl (hl0 k _ _ hgt hk he)
           subst hki
           obtain ⟨h1,h2,rfl,hdc⟩:=QcU he0
           refine Jfw (by simp;omega) fun i v hv hi=> ?_
           have hcl:=List.all_eq_true.1 hdc _ (List.mem_of_getElem? hv)
           rw [List.getElem?_take,if_pos hi,List.getElem?_drop] at hv
           obtain ⟨v',hv',hvr⟩:=hs.load hge hms hv
           have e:ms.s+(os+k*9+1+i)=ms.s+os+k*9+1+i:=by omega
           rw [e] at hv'
           show VR μ v (orZ (w.cell? ⟨ms.b,ms.s+os+k*9+1+i,none⟩))
           rw [hv',JcN (hvr.isU64.trans hcl)];exact hvr
         ·intro hno
          cases r with
          | none=>rfl
          | some d=>
           obtain ⟨i0,hi0,he0,_⟩:=hres
           have:=hno i0 hi0
           simp only [he0] at this
           exact absurd rfl this
         ·rintro ⟨k,hk,hLk⟩ rfl
          obtain ⟨y,d',he⟩:=hall k hk
          simp only [he] at hLk
          exact hres k y d' hk he hLk
        ·cases hf
       ·cases hf
      ·cases hf
    obtain ⟨hlen,sb,so,L,E,ha',hL,hE,hEc,hfound,hnone,hsome⟩:=hent
    refine hok m.b (m.s+o) md.b (md.s+od) sb so len c' a' x L E w _ hdc (by rw [←hsc,Nat.add_assoc]) ha' hlen hL hE hEc ?_ ?_
    ·intro k hk hLk hlast w1 hw1
     cases r with
     | none=>exact absurd rfl (hsome ⟨k,hk,hLk⟩)
     | some d=>
      subst hr2
      exact ⟨_,g,n,μ,hK,Xfl (hfound k hk hLk hlast),hs.below hw1,Ext.refl μ,hw1.mono hs.base⟩
    ·intro hno
     have hrn:=hnone hno
     subst hrn
     replace hr2:ZgF ld od x g=some q:=hr2
     unfold ZgF at hr2
     split at hr2
     ·rename_i ds dk hgd
      split at hr2
      ·rename_i ll ol mm cc rr hd0 hd2
       split at hr2
       ·rename_i hcond
        obtain ⟨hx0,hxm,hne,hmm⟩:=hcond
        split at hr2
        ·rename_i ws wk hgw
         split at hr2
         ·rename_i hwl
          cases hr2
          obtain ⟨lv,hlc,hlr⟩:=hs.load hgd hmd hd0
          obtain ⟨rv,hrc,hrr⟩:=hs.load hgd hmd hd2
          cases hrr
          obtain ⟨cs',bk',hg',hrw,hlt,hK⟩:=Qc1 hK
          rw [hgd] at hg';cases hg'
          have hlx: ∃(m':Pl) (c2:Nat),μ ll=some m'∧lv= .slice (some ⟨m'.b,m'.s+ol,none⟩) mm c2:=by
           cases hlr with
           | @slx _ m' _ _ _ _ hc hn hm' ha=>
            rcases ha with ha|ha
            ·exact ⟨m',_,hm',by rw [ha]⟩
            ·omega
           | @sll _ m' _ j _ c2 o2 hm' h1 h2 h3 h4=>
            rcases h4 with h4|h4
            ·exact ⟨m',_,hm',by rw [h4]⟩
            ·omega
          obtain ⟨m',c2,hm',rfl⟩:=hlx
          have hst:=hs.store hgd hmd hlt hrw (.int .i64 (IntKind.wrap .i64 (rr+1)))
          refine ⟨m'.b,m'.s+ol,mm,c2,rr,fun i=>orZ (w.cell? ⟨m'.b,m'.s+ol+x.toNat*8+i,none⟩),hs.apart hgd hmd (by cases dk<;>simp_all [Blk.rw,BK.rw]) hgw hm' hne,hlc,hx0,hxm,hmm,?_,fun _=>ZeG _,?_,?_,?_⟩
          ·intro i hi
           have hcl:isU64 (ws[ol+x.toNat*8+i]'(by omega))=true:=by
            refine List.all_eq_true.1 hwl.2 _ (List.mem_of_getElem? (i:=i) ?_)
            rw [List.getElem?_take,if_pos hi,List.getElem?_drop,List.getElem?_eq_getElem (by omega)]
           obtain ⟨v',hv,hvr⟩:=hs.load (o:=ol+x.toNat*8+i) hgw hm' (List.getElem?_eq_getElem (by omega))
           have e:m'.s+(ol+x.toNat*8+i)=m'.s+ol+x.toNat*8+i:=by omega
           rw [e] at hv
           show _=some (orZ (w.cell? ⟨m'.b,m'.s+ol+x.toNat*8+i,none⟩))
           rw [hv,JcN (hvr.isU64.trans hcl)]
          ·rw [←hrc,Nat.add_assoc]
          ·rw [Nat.add_assoc];exact hst.2.1
          ·intro w1 w2 h1 h2
           have hs1:=hs.below h1
           obtain ⟨_,_,hs2,hb2⟩:=hs1.store hgd hmd hlt hrw (.int .i64 (IntKind.wrap .i64 (rr+1)))
           rw [←Nat.add_assoc] at hs2 hb2
           have hsz:w.heap.size≤(w1.setCell ⟨md.b,md.s+od+2,none⟩ (.int .i64 (IntKind.wrap .i64 (rr+1)))).heap.size:=by
            simpa [World.setCell] using h1.size
           have hs3:Sim μ (upd g ld (some (.cells (ds.set (od+2) (.int .i64 (IntKind.wrap .i64 (rr+1)))) dk))) n w2 B:=by
            refine ⟨hs2.dom,hs2.gdom,fun l b m e f=> ?_,hs2.inj,Nat.le_trans hs2.base h2.size⟩
            refine (hs2.live l b m e f).mono (Ext.refl μ) (h2.block _ ?_)
            by_cases hl:l=ld
            ·subst hl
             rw [hmd] at f;cases f
             exact (hs.live _ _ _ hgd hmd).lt
            ·rw [Qc _ _ hl] at e
             exact (hs.live _ _ _ e f).lt
           refine ⟨_,_,n,μ,hK,Xfl (Jfw (by simp;omega) fun i v hv hi=> ?_),hs3,Ext.refl μ,((h1.mono hs.base).trans hb2).trans (h2.mono hs.base)⟩
           have hcl:=List.all_eq_true.1 hwl.2 _ (List.mem_of_getElem? hv)
           rw [List.getElem?_take,if_pos hi,List.getElem?_drop] at hv
           obtain ⟨v',hv',hvr⟩:=hs.load hgw hm' hv
           have e:m'.s+(ol+x.toNat*8+i)=m'.s+ol+x.toNat*8+i:=by omega
           rw [e] at hv'
           show VR μ v (orZ (w.cell? ⟨m'.b,m'.s+ol+x.toNat*8+i,none⟩))
           rw [hv',JcN (hvr.isU64.trans hcl)];exact hvr
         ·cases hr2
        ·cases hr2
       ·cases hr2
      ·cases hr2
     ·cases hr2
   ·cases hq
  ·cases hq
 ·cases hq
end
end Go.Proofs.YtkdfaijmjmnhjaaGreat.Abs
namespace Go.Proofs.YtkdfaijmjmnhjaaGreat.Abs
open Go Go.RowKit
variable {P:Program}
theorem Zeb (hD: ∀B,XaA P B) {H:EH} (hH:HOk H (Jba P)) {f:FuncId} {args:List Value} {v:Value} (fuel depth:Nat) (h1:plain 3 v=true) (h2:args.all (plain 3)=true)
  (h3:Jw P H fuel depth f args .nil 0 (fun v' _ _=>Qam v' v)=true) {g:G} {n:Nat} {K:Cont} (hK:K v g n):Jba P f args g n K:=by
 intro μ w B cargs hs hr
 have hx:Jba P f args (Tr.nil).get 0 (fun v' _ _=>v'=v):=Jcj (Zb7 hD) hH depth f args .nil 0 _ _ (fun v' h n e=>QfL e) h3
 have hc:=hx (fun _=>none) w w.heap.size cargs
  ⟨fun _ _ h=>by simp at h,fun _ _=>rfl,fun _ _ _ _ h=>by simp at h,fun _ _ _ _ _ _ _ _ _ _ h=>by simp at h,Nat.le_refl _⟩ (ZcY hr h2)
 have fin: ∀v' w',Fin w.heap.size w (fun _=>none) (fun v' _ _=>v'=v) v' w'→Fin B w μ K v' w':=by
  rintro v' w' ⟨v1,g1,n1,μ1,rfl,hv,_,_,hb⟩
  have hv:=Jch hv 3 h1
  subst hv
  refine ⟨_,g,n,μ,hK,QaH μ 3 _ h1,?_,Ext.refl _,?_⟩
  ·exact ⟨hs.dom,hs.gdom,fun l b m hg hm=>(hs.live l b m hg hm).mono (Ext.refl μ) (hb.block _ (hs.live l b m hg hm).lt),hs.inj,Nat.le_trans hs.base hb.size⟩
  ·exact hb.mono hs.base
 revert hc
 generalize (callFunc f cargs).run P w=r
 intro hc
 cases r with
 | ok x w'=>
  cases x<;>simp only [Upon] at hc ⊢ <;>first
   | exact fin _ _ hc
   | exact hc.elim
   | exact Calls.mono hc fun e w'' he=>by cases e<;>simp only [QfZ] at he ⊢ <;>exact fin _ _ he
   | exact Rows.mono hc fun v w'' he=>fin _ _ he
   | skip
 | halt x w'=>exact hc.elim
theorem Jf7 (hD: ∀B,XaA P B) {T:Xfi} (hT:Xg5 P T) {f:FuncId} {args:List Value} {v:Value} (fuel depth:Nat) (h1:plain 3 v=true) (h2:args.all (plain 3)=true)
  (h3:Jw P (HT T) fuel depth f args .nil 0 (fun v' _ _=>Qam v' v)=true) {g:G} {n:Nat} {K:Cont} (hK:K v g n):Jba P f args g n K:=
 Zeb hD (Qg9 (XdA hT)) fuel depth h1 h2 h3 hK
def Qhk (v:Value) (args:List Value):Option Value:=match args with|[]=>some v|_=>none
theorem Zgd {v v':Value} {args:List Value} (h:Qhk v args=some v'):args=[]∧v'=v:=by
 unfold Qhk at h;split at h
 ·cases h;exact ⟨rfl,rfl⟩
 ·cases h
end Go.Proofs.YtkdfaijmjmnhjaaGreat.Abs
namespace Go.Proofs.YtkdfaijmjmnhjaaGreat.Abs
open Go Go.RowKit
variable {P:Program}
def Qhl:Value→Value→Bool
 | .func (.func F) us vs,.func (.func F') us' vs'=>Nat.beq F F'&&(Jeg us.toList us'.toList&&Jeg vs.toList vs'.toList)
 | .nilFunc,.nilFunc=>true
 | a,b=>XdR a b
def Qgq:List Value→List Value→Bool
 | [],[]=>true
 | x::xs,y::ys=>Qhl x y&&Qgq xs ys
 | _,_=>false
def Xgq:Option Blk→Option Blk→Bool
 | none,none=>true
 | some (.cells cs k),some (.cells cs' k')=>QgQ k k'&&Qgq cs cs'
 | _,_=>false
def Xfr:Tr→Tr→Bool
 | .nil,.nil=>true
 | .node l b r,.node l' b' r'=>Xgq b b'&&(Xfr l l'&&Xfr r r')
 | _,_=>false
def Jgn:List Value→List Value→Bool
 | [],[]=>true
 | x::xs,y::ys=>Qam x y&&Jgn xs ys
 | _,_=>false
def JgD:Tr→Tr→Bool
 | .nil,_=>true
 | .node l b r,.node l' b' r'=>(match b with|none=>true|some c=>Xgq (some c) b')&&(JgD l l'&&JgD r r')
 | .node ..,.nil=>false
structure Row where
 f:FuncId
 args:List Value
 h:Tr
 n:Nat
 v:Value
 h':Tr
 n':Nat
def Row.ok (P:Program) (H:EH) (fuel depth:Nat) (r:Row):Bool:=
 Jw P H fuel depth r.f r.args r.h r.n fun v h n=>Qam v r.v&&(JgD r.h' h&&Nat.ble n r.n')
def Row.is (r:Row) (f:FuncId) (args:List Value) (h:Tr) (n:Nat):Bool:=Nat.beq f r.f&&(Nat.beq n r.n&&(Jgn args r.args&&Xfr h r.h))
end Go.Proofs.YtkdfaijmjmnhjaaGreat.Abs
namespace Go.Proofs.YtkdfaijmjmnhjaaGreat.Abs
open Go Go.RowKit
variable {P:Program}
end Go.Proofs.YtkdfaijmjmnhjaaGreat.Abs
namespace Go.Proofs.YtkdfaijmjmnhjaaGreat.Abs
open Go Go.RowKit
variable {P:Program}
inductive FK where
 | b
 | i (k:IntKind)
section
variable {H:Type} {enc:TypeId×Value→H} {w:World} {base:Nat} {spare:Nat→Bool} {held:Bool}
end
abbrev Ent:=Pl×Option (List Value)
def Jfh (es:List Ent):Mu:=fun l=>(es[l]?).map (·.1)
def gOf (es:List Ent):G:=fun l=>match es[l]? with
 | some (_,some cs)=>some (.cells cs .ro)
 | _=>none
theorem JbN {w:World} {base:Nat} {a:Addr} {n:Nat} {c:List Value} (h:w.cells? base a n=some c):c.length=n∧ ∀j,j<n→w.cell? (a.add j)=c[j]? :=by
 unfold World.cells? at h
 split at h
 ·exact ⟨by simpa using mapM_some_length h,fun j hj=>by simpa using mapM_some_get h j j (by simp [hj])⟩
 ·cases h
theorem Qeg {els:List (List Value)} {z:Nat} (hz: ∀c∈els,c.length=z) (h0:0<z) (i:Nat) (v:Value) (h:els.flatten[i]? =some v): ∃c,els[i/z]? =some c∧c[i%z]? =some v:=by
 induction els generalizing i with
 | nil=>simp at h
 | cons c els ih=>
  have hc:c.length=z:=hz c (by simp)
  rw [List.flatten_cons,List.getElem?_append] at h
  split at h
  ·rename_i hi
   rw [Nat.div_eq_of_lt (by omega),Nat.mod_eq_of_lt (by omega)]
   exact ⟨c,rfl,h⟩
  ·rename_i hi
   obtain ⟨c',h1,h2⟩:=ih (fun c hc=>hz c (by simp [hc])) _ h
   have e1:i/z=(i-z)/z+1:=by rw [Nat.div_eq i z,if_pos ⟨h0,by omega⟩]
   have e2:i%z=(i-z)%z:=by rw [Nat.mod_eq i z,if_pos ⟨h0,by omega⟩]
   rw [e1,e2,←hc]
   rw [hc]
   refine ⟨c',by simpa [hc] using h1,by simpa [hc] using h2⟩
theorem JcV {w:World} {a:Addr} {v:Value} (h:w.cell? a=some v):a.spot=none∧ ∃cells elem fz,w.heap[a.block]? =some (.cells cells elem fz)∧cells[a.off]? =some v:=by
 unfold World.cell? at h
 split at h
 ·rename_i c el fz hh
  split at h
  ·cases h
  ·rename_i hs
   refine ⟨by simpa using hs,c,el,fz,hh,h⟩
 ·cases h
theorem Jds (a:Addr) (n:Nat):(a.add n).block=a.block:=by unfold Addr.add;split<;>rfl
theorem ZeA (a:Addr) (n:Nat):(a.add n).off=a.off+n:=by unfold Addr.add;split<;>simp_all
end Go.Proofs.YtkdfaijmjmnhjaaGreat.Abs
namespace Go.Proofs.YtkdfaijmjmnhjaaGreat.Abs
open Go Go.RowKit Go.ChangeShapes Go.WideShapes Go.ChangeAt
variable {P:Program}
section
variable {H:Type} {enc:TypeId×Value→H} {w:World} {base:Nat} {held:Bool}
end
end Go.Proofs.YtkdfaijmjmnhjaaGreat.Abs
namespace Go.Proofs.YtkdfaijmjmnhjaaGreat.Abs
open Go Go.RowKit Go.ChangeShapes Go.WideShapes Go.ChangeAt
variable {P:Program}
section
variable {H:Type} {enc:TypeId×Value→H} {w:World} {base:Nat} {held:Bool} {spare:Nat→Bool}
end
end Go.Proofs.YtkdfaijmjmnhjaaGreat.Abs
namespace Go.Proofs.YtkdfaijmjmnhjaaGreat.Abs
open Go Go.RowKit Go.ChangeShapes Go.WideShapes Go.ChangeAt
variable {P:Program}
inductive TK where
 | b
 | i (k:IntKind)
 | s (ks:List TK)
def TK.wt:TK→Nat
 | .b=>1
 | .i k=>k.bits/8
 | .s _=>8
def wts:List TK→Nat
 | []=>0
 | k::ks=>k.wt+wts ks
def XdN (P:Program) (F:TypeId→Option (List TK)):List Field→Nat→Option (List TK)
 | [],_=>some []
 | f::fs,at_=>match decide (f.offset=at_),F f.type with
  | true,some ks=>match decide (P.cellsOf f.type=ks.length) with
   | true=>(XdN P F fs (at_+ks.length)).map (ks++ ·)
   | false=>none
  | _,_=>none
def Xdd (P:Program):Nat→TypeId→Option (List TK)
 | 0=>fun _=>none
 | d+1=>fun t=>match P.underlying t with
  | some .bool=>some [.b]
  | some (.int k)=>some [.i k]
  | some (.struct fs)=>XdN P (Xdd P d) fs.toList 0
  | some (.array n e)=>match Xdd P d e with
   | some ks=>match decide (P.cellsOf e=ks.length) with
    | true=>some (List.replicate n ks).flatten
    | false=>none
   | none=>none
  | some (.slice e)=>match Xdd P d e with
   | some ks=>match decide (P.cellsOf e=ks.length),decide (0<ks.length),decide (0<P.bytesOf e∧wts ks≤P.bytesOf e) with
    | true,true,true=>some [.s ks]
    | _,_,_=>none
   | none=>none
  | _=>none
mutual
def Zf8 (g:G):TK→Value→Prop
 | .b,v=> ∃b,v= .bool b
 | .i k,v=> ∃n,v= .int k n∧(Lit.int k n).wf=true
 | .s ks,v=> ∃els:List (List Value),Rd g v ks.length els.length els.flatten∧(∀a m c,v= .slice a m c→(c<LC∧c*wts ks≤reachBytes)∧m≤c)∧ ∀c∈els,RepL g ks c
def RepL (g:G):List TK→List Value→Prop
 | [],cs=>cs=[]
 | k::ks,cs=> ∃v r,cs=v::r∧Zf8 g k v∧RepL g ks r
end
theorem RepL.len {g:G}: ∀{ks:List TK} {cs:List Value},RepL g ks cs→cs.length=ks.length
 | [],cs,h=>by unfold RepL at h;subst h;rfl
 | k::ks,cs,h=>by unfold RepL at h;obtain ⟨v,r,rfl,_,h⟩:=h;simp [RepL.len h]
theorem RepL.append {g:G}: ∀{a b:List TK} {cs ds:List Value},RepL g a cs→RepL g b ds→RepL g (a++b) (cs++ds)
 | [],b,cs,ds,h,k=>by unfold RepL at h;subst h;simpa using k
 | x::a,b,cs,ds,h,k=>by
  unfold RepL at h
  obtain ⟨v,r,rfl,h1,h2⟩:=h
  show RepL g (x::(a++b)) (v::(r++ds))
  unfold RepL
  exact ⟨v,_,rfl,h1,RepL.append h2 k⟩
def ZeK (w:World) (μ:Mu) (e:Ent):Prop:= ∀cs,e.2=some cs→ ∃cells elem fz,w.heap[e.1.b]? =some (.cells cells elem fz)∧ ∀(i:Nat) (v:Value),cs[i]? =some v→ ∃v',cells[e.1.s+i]? =some v'∧VR μ v v'
theorem XgL {w:World} {es:List Ent} (h: ∀e∈es,ZeK w (Jfh es) e):Sim (Jfh es) (gOf es) es.length w w.heap.size:=by
 refine ⟨?_,?_,?_,?_,Nat.le_refl _⟩
 ·intro l m hm
  unfold Jfh at hm
  rcases Nat.lt_or_ge l es.length with h|h
  ·exact h
  ·rw [List.getElem?_eq_none h] at hm;cases hm
 ·intro l hl
  unfold gOf
  rw [List.getElem?_eq_none hl]
 ·intro l b m hb hm
  unfold gOf at hb
  unfold Jfh at hm
  split at hb
  ·rename_i pl cs he
   rw [he] at hm
   simp at hm hb
   subst hm;subst hb
   obtain ⟨cells,elem,fz,h1,h2⟩:=h _ (List.mem_of_getElem? he) cs rfl
   exact ⟨cells,elem,fz,h1,h2,(Array.getElem?_eq_some_iff.1 h1).1⟩
  ·cases hb
 ·intro l l' b b' m m' hb _ hr
  unfold gOf at hb
  split at hb
  ·simp at hb;subst hb;simp [Blk.rw] at hr
  ·cases hb
def Got (w:World) (ks:List TK) (cs:List Value):Prop:=
 ∀l0:Nat,∃(ents:List Ent) (acs:List Value),∀pre post:List Ent,pre.length=l0→
  VRs (Jfh (pre++ents++post)) acs cs∧RepL (gOf (pre++ents++post)) ks acs∧ ∀e∈ents,ZeK w (Jfh (pre++ents++post)) e
theorem Got.nil {w:World}:Got w [] []:=fun _=>⟨[],[],fun _ _ _=>⟨.nil,rfl,by simp⟩⟩
theorem Got.append {w:World} {k1 k2:List TK} {c1 c2:List Value} (h1:Got w k1 c1) (h2:Got w k2 c2):Got w (k1++k2) (c1++c2):=by
 intro l0
 obtain ⟨e1,a1,h1⟩:=h1 l0
 obtain ⟨e2,a2,h2⟩:=h2 (l0+e1.length)
 refine ⟨e1++e2,a1++a2,fun pre post hp=> ?_⟩
 obtain ⟨v1,r1,o1⟩:=h1 pre (e2++post) hp
 obtain ⟨v2,r2,o2⟩:=h2 (pre++e1) post (by rw [List.length_append,hp])
 have q1:pre++e1++(e2++post)=pre++(e1++e2)++post:=by simp [List.append_assoc]
 have q2:pre++e1++e2++post=pre++(e1++e2)++post:=by simp [List.append_assoc]
 rw [q1] at v1 r1 o1
 rw [q2] at v2 r2 o2
 refine ⟨v1.append v2,r1.append r2,fun e he=> ?_⟩
 rcases List.mem_append.1 he with h|h
 ·exact o1 e h
 ·exact o2 e h
theorem Got.split {w:World} {k1 k2:List TK} {cs:List Value} (h1:Got w k1 (cs.take k1.length)) (h2:Got w k2 (cs.drop k1.length)):Got w (k1++k2) cs:=by
 have:=h1.append h2
 rwa [List.take_append_drop] at this
theorem Got.each {w:World} {ks:List TK}: ∀(els:List (List Value)),(∀c∈els,Got w ks c)→ ∀l0:Nat,∃(ents:List Ent) (as:List (List Value)),as.length=els.length∧ ∀pre post:List Ent,pre.length=l0→
  VRs (Jfh (pre++ents++post)) as.flatten els.flatten∧(∀a∈as,RepL (gOf (pre++ents++post)) ks a)∧ ∀e∈ents,ZeK w (Jfh (pre++ents++post)) e
 | [],_,l0=>⟨[],[],rfl,fun _ _ _=>⟨.nil,by simp,by simp⟩⟩
 | c::els,h,l0=>by
  obtain ⟨e1,a1,h1⟩:=h c (by simp) l0
  obtain ⟨e2,as,hl,h2⟩:=Got.each els (fun c hc=>h c (by simp [hc])) (l0+e1.length)
  refine ⟨e1++e2,a1::as,by simp [hl],fun pre post hp=> ?_⟩
  obtain ⟨v1,r1,o1⟩:=h1 pre (e2++post) hp
  obtain ⟨v2,r2,o2⟩:=h2 (pre++e1) post (by rw [List.length_append,hp])
  have q1:pre++e1++(e2++post)=pre++(e1++e2)++post:=by simp [List.append_assoc]
  have q2:pre++e1++e2++post=pre++(e1++e2)++post:=by simp [List.append_assoc]
  rw [q1] at v1 r1 o1
  rw [q2] at v2 r2 o2
  refine ⟨v1.append v2,fun a ha=> ?_,fun e he=> ?_⟩
  ·rcases List.mem_cons.1 ha with rfl|ha
   ·exact r1
   ·exact r2 a ha
  ·rcases List.mem_append.1 he with h|h
   ·exact o1 e h
   ·exact o2 e h
theorem Qhe {z:Nat}: ∀(l:List (List Value)),(∀c∈l,c.length=z)→l.flatten.length=l.length*z
 | [],_=>by simp
 | c::l,h=>by simp [Qhe l (fun c hc=>h c (by simp [hc])),h c (by simp),Nat.add_mul];omega
theorem Got.slice {w:World} {base:Nat} {a:Addr} {len cap:Nat} {ks:List TK} {els:List (List Value)} (hz:0<ks.length) (hl:len≤cap) (hlen:els.length=cap) (hcap:cap<LC∧cap*wts ks≤reachBytes)
  (hel: ∀(i:Nat) (c:List Value),els[i]? =some c→Got w ks c∧w.cells? base (a.add (i*ks.length)) ks.length=some c):Got w [.s ks] [.slice (some a) len cap]:=by
 intro l0
 have hcl: ∀c∈els,c.length=ks.length:=fun c hc=>by
  obtain ⟨i,hi⟩:=List.getElem?_of_mem hc
  exact (JbN (hel i c hi).2).1
 by_cases h0:cap=0
 ·subst h0
  obtain rfl:len=0:=by omega
  refine ⟨[(⟨0,0,0,0⟩,none)],[.slice (some ⟨l0,0,none⟩) 0 0],fun pre post hp=>⟨?_,?_,fun e he cs h=> ?_⟩⟩
  ·refine .cons (.slx (m:=⟨0,0,0,0⟩) 0 0 0 a (by decide) (Nat.le_refl _) ?_ (.inr rfl)) .nil
   simp [Jfh,←hp]
  ·unfold RepL
   refine ⟨_,[],rfl,?_,rfl⟩
   unfold Zf8
   exact ⟨[],⟨_,_,rfl,by simp,.inr ⟨l0,0,rfl⟩,fun h=>absurd h (by simp)⟩,fun a m c h=>by cases h;exact ⟨⟨by decide,by rw [Nat.zero_mul];exact Nat.zero_le _⟩,Nat.le_refl _⟩,by simp⟩
  ·simp at he;subst he;cases h
 ·obtain ⟨ents,as,hal,hg⟩:=Got.each els (fun c hc=>by obtain ⟨i,hi⟩:=List.getElem?_of_mem hc;exact (hel i c hi).1) l0
  have hc0: ∃c,els[0]? =some c:=⟨els[0]'(by omega),List.getElem?_eq_getElem (by omega)⟩
  obtain ⟨c0,hc0⟩:=hc0
  obtain ⟨_,hcs0⟩:=hel 0 c0 hc0
  have hcell0:=(JbN hcs0).2 0 hz
  have hl0:=(JbN hcs0).1
  rw [List.getElem?_eq_getElem (by omega)] at hcell0
  obtain ⟨hspot,cells,elem,fz,hh,_⟩:=JcV hcell0
  have hspot:a.spot=none:=by simpa [Addr.add] using hspot
  have hh:w.heap[a.block]? =some (.cells cells elem fz):=by simpa [Addr.add] using hh
  have hall: ∀(i:Nat) (v:Value),els.flatten[i]? =some v→cells[a.off+i]? =some v:=by
   intro i v hv
   obtain ⟨c,h1,h2⟩:=Qeg hcl hz i v hv
   obtain ⟨hok,hcs⟩:=hel _ c h1
   have hj:=(JbN hcs).2 (i%ks.length) (Nat.mod_lt _ hz)
   rw [h2] at hj
   obtain ⟨_,cells',elem',fz',hh',hv'⟩:=JcV hj
   have hb:(Addr.add (Addr.add a (i/ks.length*ks.length)) (i%ks.length)).block=a.block:=by rw [Jds,Jds]
   have ho:(Addr.add (Addr.add a (i/ks.length*ks.length)) (i%ks.length)).off=a.off+i:=by
    have hx:(Addr.add (Addr.add a (i/ks.length*ks.length)) (i%ks.length)).off=a.off+i/ks.length*ks.length+i%ks.length:=by rw [ZeA,ZeA]
    rw [hx]
    have:=Nat.div_add_mod i ks.length
    rw [Nat.mul_comm] at this
    omega
   rw [hb,hh] at hh'
   cases hh'
   rw [ho] at hv'
   exact hv'
  refine ⟨ents++[(⟨a.block,a.off,0,0⟩,some as.flatten)],[.slice (some ⟨l0+ents.length,0,none⟩) len cap],fun pre post hp=> ?_⟩
  have q:pre++ents++([((⟨a.block,a.off,0,0⟩,some as.flatten):Ent)]++post)=pre++(ents++[(⟨a.block,a.off,0,0⟩,some as.flatten)])++post:=by simp [List.append_assoc]
  obtain ⟨v1,r1,o1⟩:=hg pre ([(⟨a.block,a.off,0,0⟩,some as.flatten)]++post) hp
  rw [q] at v1 r1 o1
  generalize hes:pre++(ents++[((⟨a.block,a.off,0,0⟩,some as.flatten):Ent)])++post=es at v1 r1 o1 ⊢
  have hme:es[l0+ents.length]? =some (⟨a.block,a.off,0,0⟩,some as.flatten):=by
   rw [←hes,←q,←hp,←List.length_append,List.getElem?_append_right (Nat.le_refl _)];simp
  have hasl: ∀x∈as,x.length=ks.length:=fun x hx=>(r1 x hx).len
  refine ⟨.cons ?_ .nil,?_,fun e he=> ?_⟩
  ·refine .slx (m:=⟨a.block,a.off,0,0⟩) 0 len cap a hcap.1 hl (by simp [Jfh,hme]) (.inl ?_)
   cases a;simp at hspot;subst hspot;rfl
  ·unfold RepL
   refine ⟨_,[],rfl,?_,rfl⟩
   unfold Zf8
   have htl:(as.take len).length=len:=by rw [List.length_take];omega
   refine ⟨as.take len,?_,fun a m c h=>by cases h;exact ⟨hcap,hl⟩,fun c hc=>r1 c (List.mem_of_mem_take hc)⟩
   rw [htl]
   refine ⟨_,_,rfl,?_,.inr ⟨_,0,rfl⟩,fun _=>⟨l0+ents.length,0,as.flatten,.ro,rfl,by simp [gOf,hme],?_,?_⟩⟩
   ·rw [Qhe _ (fun c hc=>hasl c (List.mem_of_mem_take hc)),htl]
   ·rw [Qhe _ hasl,Nat.zero_add];exact Nat.mul_le_mul_right _ (by omega)
   ·rw [List.drop_zero]
    have e:as.flatten=(as.take len).flatten++(as.drop len).flatten:=by rw [←List.flatten_append,List.take_append_drop]
    have hlt:(as.take len).flatten.length=len*ks.length:=by rw [Qhe _ (fun c hc=>hasl c (List.mem_of_mem_take hc)),htl]
    rw [e,←hlt,List.take_left]
  ·rcases List.mem_append.1 he with h|h
   ·exact o1 e h
   ·simp at h;subst h
    intro cs hcs
    cases hcs
    refine ⟨cells,elem,fz,hh,fun i v hv=> ?_⟩
    obtain ⟨v',hv',hr⟩:=v1.get i v hv
    exact ⟨v',hall i v' hv',hr⟩
section
variable {H:Type} {enc:TypeId×Value→H} {w:World} {base:Nat} {held:Bool}
theorem Xd9 {F:TypeId→Option (List TK)} {cs:List Value}:
  ∀(fs:List Field) (at_:Nat) (ks:List TK),XdN P F fs at_=some ks→cs.length=at_+ks.length→(∀f∈fs,∀k,F f.type=some k→P.cellsOf f.type=k.length→Got w k ((cs.drop f.offset).take (P.cellsOf f.type)))→Got w ks (cs.drop at_)
 | [],at_,ks,h,hl,_=>by
  simp [XdN] at h;subst h
  rw [List.drop_eq_nil_of_le (by simpa using Nat.le_of_eq hl)];exact Got.nil
 | f::fs,at_,ks,h,hl,hx=>by
  unfold XdN at h
  split at h
  ·rename_i k1 ho hk1
   split at h
   ·rename_i hc
    obtain ⟨k2,h2,rfl⟩:=Option.map_eq_some_iff.1 h
    have ho:f.offset=at_:=of_decide_eq_true ho
    have hc:P.cellsOf f.type=k1.length:=of_decide_eq_true hc
    have o1:=hx f (by simp) k1 hk1 hc
    rw [ho,hc] at o1
    have o2:=Xd9 fs (at_+k1.length) k2 h2 (by simp at hl;omega) (fun f hf=>hx f (by simp [hf]))
    exact Got.split o1 (by rw [List.drop_drop];exact o2)
   ·cases h
  ·cases h
theorem Zfp {k1:List TK} {cs:List Value}: ∀(n s:Nat),(∀i,s≤i→i<s+n→Got w k1 ((cs.drop (i*k1.length)).take k1.length))→cs.length=(s+n)*k1.length→Got w (List.replicate n k1).flatten (cs.drop (s*k1.length))
 | 0,s,_,hl=>by rw [List.drop_eq_nil_of_le (by simpa using Nat.le_of_eq hl)];exact Got.nil
 | n+1,s,h,hl=>by
  have ih:=Zfp n (s+1) (fun i h1 h2=>h i (by omega) (by omega)) (by rw [hl];congr 1;omega)
  rw [List.replicate_succ,List.flatten_cons]
  refine Got.split (h s (Nat.le_refl _) (by omega)) ?_
  rw [List.drop_drop]
  rw [Nat.add_mul,Nat.one_mul] at ih
  exact ih
theorem JaH {P:Program} {e:TypeId}: ∀{ds:List (DataW H)} {d:DataW H},d∈ds→ ∀n∈d.weights P e,n∈DataW.weightsAll P e ds
 | x::ds,d,h,n,hn=>by
  simp only [DataW.weightsAll,List.mem_append]
  rcases List.mem_cons.1 h with rfl|h
  ·exact .inl hn
  ·exact .inr (JaH h n hn)
theorem Zca: ∀(d fuel:Nat) (t:TypeId) (ks:List TK) (cs:List Value) (x:DataW H×List MemPlace),Xdd P d t=some ks→P.cellsOf t=ks.length→(∀n∈x.1.weights P t,n≤reachBytes)→DataW.trod enc P w base (fun _=>true) held fuel t cs=some x→Got w ks cs
 | 0,_,t,ks,cs,x,hk,_,_,_=>by simp [Xdd] at hk
 | d+1,fuel,t,ks,cs,x,hk,hc,hw,hx=>by
  unfold Xdd at hk
  split at hk
  ·rename_i hu
   simp at hk;subst hk
   obtain ⟨b,rfl,_⟩:=DataW.trod_bool hu hx
   exact fun _=>⟨[],[.bool b],fun _ _ _=>⟨.cons (.bool b) .nil,⟨_,_,rfl,⟨b,rfl⟩,rfl⟩,by simp⟩⟩
  ·rename_i k hu
   simp at hk;subst hk
   obtain ⟨n,rfl,_,hwf⟩:=DataW.trod_int hu hx
   exact fun _=>⟨[],[.int k n],fun _ _ _=>⟨.cons (.int k n) .nil,⟨_,_,rfl,⟨n,rfl,hwf⟩,rfl⟩,by simp⟩⟩
  ·rename_i fs hu
   obtain ⟨xs,n,rfl,hxe,hl,hxl,hel⟩:=DataW.trod_struct hu hx
   have:=Xd9 (P:=P) (w:=w) (cs:=cs) (F:=Xdd P d) fs.toList 0 ks hk (by rw [hl,hc];simp) (fun f hf k hk1 hc1=>by
    obtain ⟨i,hi⟩:=List.getElem?_of_mem hf
    have hi':fs[i]? =some f:=by simpa using hi
    have hlt:i<fs.size:=(Array.getElem?_eq_some_iff.1 hi').1
    have hxi:xs[i]? =some (xs[i]'(by omega)):=List.getElem?_eq_getElem (by omega)
    refine Zca d n f.type k _ (xs[i]'(by omega)) hk1 hc1 (fun m hm=>hw m ?_) (by rw [hel i f hi',hxi])
    rw [hxe]
    simp only [DataW.weights,hu]
    exact DataW.weights_mem_each (j:=i) (by rw [List.getElem?_map,hi];rfl) (by rw [List.getElem?_map,hxi];rfl) m hm)
   simpa using this
  ·rename_i len e hu
   split at hk
   ·rename_i k1 hk1
    split at hk
    ·rename_i hce
     have hce:P.cellsOf e=k1.length:=of_decide_eq_true hce
     simp at hk;subst hk
     obtain ⟨xs,m,rfl,hxe,hl,hxl,hel⟩:=DataW.trod_array hu hx
     have:=Zfp (w:=w) (k1:=k1) (cs:=cs) len 0 (fun i _ hi=>by
      have h1:=hel i (by omega)
      rw [List.getElem?_eq_getElem (by omega)] at h1
      have:=Zca d m e k1 _ _ hk1 hce (fun q hq=>hw q (by
       rw [hxe];simp only [DataW.weights,hu]
       exact JaH (List.mem_map.2 ⟨_,List.getElem_mem _,rfl⟩) q hq)) h1
      rw [hce] at this
      exact this) (by rw [hl,hc];simp)
     simpa using this
    ·cases hk
   ·cases hk
  ·rename_i e hu
   split at hk
   ·rename_i k1 hk1
    split at hk
    ·rename_i hce hz hb
     have hce:P.cellsOf e=k1.length:=of_decide_eq_true hce
     have hz:0<k1.length:=of_decide_eq_true hz
     obtain ⟨hb,hbw⟩:0<P.bytesOf e∧wts k1≤P.bytesOf e:=of_decide_eq_true hb
     simp at hk;subst hk
     rcases DataW.trod_slice hu hx with ⟨rfl,hxe⟩|⟨a,len,cap,elems,rest,n,rfl,rfl,hxe,_,hl,_,hlen,hel,hsp,_⟩
     ·refine fun _=>⟨[],[.slice none 0 0],fun _ _ _=>⟨.cons .nilslice .nil,⟨_,_,rfl,?_,rfl⟩,by simp⟩⟩
      unfold Zf8
      exact ⟨[],Rd.nil _,fun a m c h=>by cases h;exact ⟨⟨by decide,by rw [Nat.zero_mul];exact Nat.zero_le _⟩,Nat.le_refl _⟩,by simp⟩
     ·obtain ⟨hrl,hr⟩:=hsp rfl
      have hwx: ∀n∈(elems.map (·.1)++rest.map (·.1)).flatMap (fun d:DataW H=>d.weights P e),n≤reachBytes:=by
       intro q hq
       refine hw q ?_
       rw [hxe];simp only [DataW.weights,hu]
       obtain ⟨y,hy,hq⟩:=List.mem_flatMap.1 hq
       rcases List.mem_append.1 hy with hy|hy
       ·exact List.mem_cons_of_mem _ (List.mem_append.2 (.inl (JaH hy q hq)))
       ·exact List.mem_cons_of_mem _ (List.mem_append.2 (.inr (JaH hy q hq)))
      have hcap:cap<LC∧cap*wts k1≤reachBytes:=by
       have h1:=hw ((elems.length+rest.length)*P.bytesOf e) (by rw [hxe];simp [DataW.weights,hu])
       rw [show elems.length+rest.length=cap by omega] at h1
       have h2:cap≤cap*P.bytesOf e:=Nat.le_mul_of_pos_right _ hb
       have h3:=reachBytes_lt
       have:LC=2^62:=by decide
       have h4:cap*wts k1≤cap*P.bytesOf e:=Nat.mul_le_mul_left _ hbw
       omega
      have each: ∀i,i<cap→ ∃c,w.cells? base (a.add (i*k1.length)) k1.length=some c∧Got w k1 c:=by
       intro i hi
       have: ∃y,(w.cells? base (a.add (i*P.cellsOf e)) (P.cellsOf e)).bind (DataW.trod enc P w base (fun _=>true) held n e)=some y∧y.1∈(elems.map (·.1)++rest.map (·.1)):=by
        by_cases hil:i<len
        ·exact ⟨elems[i]'(by omega),by rw [hel i hil,List.getElem?_eq_getElem (by omega)],List.mem_append.2 (.inl (List.mem_map.2 ⟨_,List.getElem_mem _,rfl⟩))⟩
        ·have:=hr (i-len) (by omega)
         rw [show len+(i-len)=i by omega] at this
         exact ⟨rest[i-len]'(by omega),by rw [this,List.getElem?_eq_getElem (by omega)],List.mem_append.2 (.inr (List.mem_map.2 ⟨_,List.getElem_mem _,rfl⟩))⟩
       obtain ⟨y,hy,hym⟩:=this
       obtain ⟨c,h1,h2⟩:=Option.bind_eq_some_iff.1 hy
       rw [hce] at h1
       exact ⟨c,h1,Zca d n e k1 c y hk1 hce (fun q hq=>hwx q (List.mem_flatMap.2 ⟨_,hym,hq⟩)) h2⟩
      refine Got.slice (base:=base) (els:=(List.range cap).map fun i=>(w.cells? base (a.add (i*k1.length)) k1.length).getD []) hz hl (by simp) hcap (fun i c hi=> ?_)
      rw [List.getElem?_map] at hi
      by_cases hlt:i<cap
      ·rw [List.getElem?_range hlt] at hi
       obtain ⟨c',h1,h2⟩:=each i hlt
       simp [h1] at hi
       subst hi
       exact ⟨h2,h1⟩
      ·rw [List.getElem?_eq_none (by simp;omega)] at hi
       cases hi
    ·cases hk
   ·cases hk
  ·cases hk
end
end Go.Proofs.YtkdfaijmjmnhjaaGreat.Abs
namespace Go.Proofs.YtkdfaijmjmnhjaaGreat.Abs
open Go Go.RowKit Go.ChangeShapes Go.WideShapes Go.ChangeAt
variable {P:Program}
abbrev AK:=Bool×List TK
def Qhp (g:G) (k:AK) (v:Value):Prop:=match k.1 with
 | true=> ∃cs:List Value,v= .agg cs.toArray∧RepL g k.2 cs
 | false=>RepL g k.2 [v]
inductive Qe5 (g:G):List AK→List Value→Prop
 | nil:Qe5 g [] []
 | cons {k:AK} {v:Value} {ks:List AK} {vs:List Value}:Qhp g k v→Qe5 g ks vs→Qe5 g (k::ks) (v::vs)
def Qhd (w:World) (k:AK) (v:Value):Prop:=Got w k.2 v.cells.toList∧match k.1 with
 | true=> ∃xs:Array Value,v= .agg xs
 | false=>v.cells.toList=[v]
inductive Jfv (w:World):List AK→List Value→Prop
 | nil:Jfv w [] []
 | cons {k:AK} {v:Value} {ks:List AK} {vs:List Value}:Qhd w k v→Jfv w ks vs→Jfv w (k::ks) (v::vs)
theorem Zfw {μ:Mu} {as:List Value} {x:Value} (h:VRs μ as [x]): ∃a,as=[a]∧VR μ a x:=by
 cases h with
 | cons h1 h2=>cases h2;exact ⟨_,rfl,h1⟩
theorem Qex {w:World}: ∀{ks:List AK} {vs:List Value},Jfv w ks vs→ ∀l0:Nat,∃(ents:List Ent) (avs:List Value),∀pre post:List Ent,pre.length=l0→
  VRs (Jfh (pre++ents++post)) avs vs∧Qe5 (gOf (pre++ents++post)) ks avs∧ ∀e∈ents,ZeK w (Jfh (pre++ents++post)) e
 | _,_,.nil,l0=>⟨[],[],fun _ _ _=>⟨.nil,.nil,by simp⟩⟩
 | _,_,.cons (k:=k) (v:=v) hv hvs,l0=>by
  obtain ⟨e1,a1,h1⟩:=hv.1 l0
  obtain ⟨e2,a2,h2⟩:=Qex hvs (l0+e1.length)
  have hk:=hv.2
  refine ⟨e1++e2,(match k.1 with|true=>Value.agg a1.toArray|false=>a1.headD undef)::a2,fun pre post hp=> ?_⟩
  obtain ⟨v1,r1,o1⟩:=h1 pre (e2++post) hp
  obtain ⟨v2,r2,o2⟩:=h2 (pre++e1) post (by rw [List.length_append,hp])
  have q1:pre++e1++(e2++post)=pre++(e1++e2)++post:=by simp [List.append_assoc]
  have q2:pre++e1++e2++post=pre++(e1++e2)++post:=by simp [List.append_assoc]
  rw [q1] at v1 r1 o1
  rw [q2] at v2 r2 o2
  refine ⟨.cons ?_ v2,.cons ?_ r2,fun e he=> ?_⟩
  ·cases hb:k.1 with
   | true=>
    rw [hb] at hk
    obtain ⟨xs,rfl⟩:=hk
    have:xs=xs.toList.toArray:=by simp
    rw [this]
    exact VRs.agg (by simpa [Value.cells] using v1)
   | false=>
    rw [hb] at hk
    rw [hk] at v1
    obtain ⟨a,rfl,hr⟩:=Zfw v1
    exact hr
  ·unfold Qhp
   cases hb:k.1 with
   | true=>exact ⟨a1,rfl,r1⟩
   | false=>
    rw [hb] at hk
    rw [hk] at v1
    obtain ⟨a,rfl,hr⟩:=Zfw v1
    exact r1
  ·rcases List.mem_append.1 he with h|h
   ·exact o1 e h
   ·exact o2 e h
section
variable {H:Type} {enc:TypeId×Value→H} {w:World} {base:Nat} {held:Bool}
theorem Xhq {ts:List TypeId} {ds:List (DataW H)} {j d:Nat} {t:TypeId} {ks:List TK} {b:Bool} {v:Value} {dd:DataW H} {p:List MemPlace} (hk:Xdd P d t=some ks) (hc:P.cellsOf t=ks.length)
  (hb:match b with|true=> ∃xs:Array Value,v= .agg xs|false=>v.cells.toList=[v]) (h:DataW.Trod enc P w base (fun _=>true) held t v dd p)
  (hsz:(DataW.weightsEach P ts ds).all (· ≤reachBytes)=true) (htj:ts[j]? =some t) (hdj:ds[j]? =some dd):Qhd w (b,ks) v:=by
 obtain ⟨fuel,hf⟩:=h
 refine ⟨Zca d fuel t ks _ _ hk hc (fun n hn=> ?_) hf,hb⟩
 have:=List.all_eq_true.1 hsz n (DataW.weights_mem_each htj hdj n hn)
 simpa using this
end
theorem Jdj {v:Value} (h: ∃a len cap,v= .slice a len cap):v.cells.toList=[v]:=by obtain ⟨a,len,cap,rfl⟩:=h;simp [Value.cells]
theorem Zeq (hm:P.follows .mixedOrders=true) {X:XT} (hX:XcP P X) {f:FuncId} {fn:Func} {cargs:Array Value} {w:World} {ks:List AK} (hf:P.funcs[f]? =some fn) (hb:fn.body.isSome=true) (hn:(fn.name== "runtime.NumGoroutine")=false)
  (hg:Jfv w ks cargs.toList) (h: ∀(g:G) (n:Nat) (args:List Value),Qe5 g ks args→ ∀K:Cont,(∀g' n',K (.bool true) g' n')→ACalls P X f args g n K):
  Calls P f cargs w fun e w'=>e= .returned (.bool true)∧Below w.heap.size w w':=by
 obtain ⟨ents,avs,ha⟩:=Qex hg 0
 obtain ⟨h1,h2,h3⟩:=ha [] [] rfl
 simp only [List.nil_append,List.append_nil] at h1 h2 h3
 refine Calls.mono (Xc4 (Jc3 hm) hX hf hb hn (XgL h3) h1 (h _ _ _ h2 (fun v _ _=>v= .bool true) fun _ _=>rfl)) fun e w' he=> ?_
 cases e with
 | returned v'=>
  obtain ⟨v,g,n,μ',hk,hvr,_,_,hbel⟩:=he
  subst hk
  cases hvr
  exact ⟨rfl,hbel⟩
 | panicked c=>exact he.elim
 | outgrown=>exact he.elim
theorem Zhl {g:G} {k:IntKind} {ks:List TK} {cs:List Value} (h:RepL g (.i k::ks) cs): ∃a r,cs= .int k a::r∧(Lit.int k a).wf=true∧RepL g ks r:=by
 unfold RepL at h;obtain ⟨v,r,rfl,h1,h⟩:=h;unfold Zf8 at h1;obtain ⟨a,rfl,hw⟩:=h1;exact ⟨a,r,rfl,hw,h⟩
theorem Jg6 {g:G} {k ks:List TK} {cs:List Value} (h:RepL g (.s k::ks) cs): ∃v r,cs=v::r∧Zf8 g (.s k) v∧RepL g ks r:=by
 unfold RepL at h;obtain ⟨v,r,rfl,h1,h⟩:=h;exact ⟨v,r,rfl,h1,h⟩
theorem Jeq {g:G} {cs:List Value} (h:RepL g [] cs):cs=[]:=by unfold RepL at h;exact h
def SlR {α:Type} (R:G→List Value→α→Prop) (z:Nat) (g:G) (v:Value) (xs:List α):Prop:=
 ∃els:List (List Value),Rd g v z xs.length els.flatten∧els.length=xs.length∧(∀(i:Nat) (c:List Value) (x:α),els[i]? =some c→xs[i]? =some x→c.length=z∧R g c x)
theorem Xdb {α:Type} {R:List Value→α→Prop}: ∀(els:List (List Value)),(∀c∈els,∃x,R c x)→ ∃xs:List α,els.length=xs.length∧ ∀(i:Nat) (c:List Value) (x:α),els[i]? =some c→xs[i]? =some x→R c x
 | [],_=>⟨[],rfl,by simp⟩
 | c::els,h=>by
  obtain ⟨x,hx⟩:=h c (by simp)
  obtain ⟨xs,hl,hr⟩:=Xdb els (fun c hc=>h c (by simp [hc]))
  refine ⟨x::xs,by simp [hl],fun i c' x' h1 h2=> ?_⟩
  cases i with
  | zero=>simp at h1 h2;subst h1;subst h2;exact hx
  | succ i=>exact hr i c' x' (by simpa using h1) (by simpa using h2)
theorem Jgy {α:Type} {R:G→List Value→α→Prop} {g:G} {ks:List TK} {v:Value} (dec: ∀c,RepL g ks c→ ∃x,R g c x) (h:Zf8 g (.s ks) v): ∃xs:List α,SlR R ks.length g v xs∧ ∀a m c,v= .slice a m c→c<LC∧m≤c:=by
 unfold Zf8 at h
 obtain ⟨els,h1,h2,h3⟩:=h
 obtain ⟨xs,hl,hr⟩:=Xdb els (fun c hc=>dec c (h3 c hc))
 exact ⟨xs,⟨els,by rw [←hl];exact h1,hl,fun i c x hi hx=>⟨(h3 c (List.mem_of_getElem? hi)).len,hr i c x hi hx⟩⟩,fun a m c e=>⟨(h2 a m c e).1.1,(h2 a m c e).2⟩⟩
theorem Qgr {α:Type} {enc:α→List Value} {g:G} {ks:List TK} {v:Value} (dec: ∀c,RepL g ks c→ ∃x,c=enc x) (h:Zf8 g (.s ks) v): ∃xs:List α,Sl enc ks.length g v xs∧ ∀a m c,v= .slice a m c→c<LC∧m≤c:=by
 obtain ⟨xs,⟨els,h1,h2,h3⟩,h4⟩:=Jgy (R:=fun _ c x=>c=enc x) dec h
 refine ⟨xs,?_,h4⟩
 have:els=xs.map enc:=by
  apply List.ext_getElem?
  intro i
  rw [List.getElem?_map]
  cases hx:xs[i]? with
  | none=>
   have:xs.length≤i:=by simpa using hx
   rw [List.getElem?_eq_none (by omega)];rfl
  | some x=>
   have hi:i<xs.length:=by rcases Nat.lt_or_ge i xs.length with h|h;exact h;rw [List.getElem?_eq_none h] at hx;cases hx
   have hc:els[i]? =some (els[i]'(by omega)):=List.getElem?_eq_getElem (by omega)
   rw [hc,(h3 i _ x hc hx).2];rfl
 subst this
 exact h1
end Go.Proofs.YtkdfaijmjmnhjaaGreat.Abs
