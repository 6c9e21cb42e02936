import Derived.ChangeOld
import Derived.Laws.LoneSync
import Derived.OpenShut
import Derived.ProofKit
import Derived.ShutString
import Derived.SizedLaws
import Derived.WalkKit
import Derived.Test.YtmchcjaomcdbmaaGreatAbsB
/- An evaluator for closed runs, sound for the machine; how arguments come in. -/
set_option linter.all false
set_option linter.deprecated false
namespace Go.Proofs.YtmchcjaomcdbmaaGreat.Abs
open Go Go.RowKit
def Jbb (n:Nat) (k:Nat→Bool):Bool:=match n with
 | 0=>k 0
 | m+1=>k (m+1)
def Zdg (i:Int) (k:Int→Bool):Bool:=match i with
 | .ofNat n=>Jbb n fun n=>k (.ofNat n)
 | .negSucc n=>Jbb n fun n=>k (.negSucc n)
def fB (b:Bool) (k:Bool→Bool):Bool:=match b with
 | true=>k true
 | false=>k false
def fV (v:Value) (k:Value→Bool):Bool:=match v with
 | .int kd i=>k (.int kd i)
 | .bool b=>k (.bool b)
 | .pointer a=>k (.pointer a)
 | .slice a m c=>k (.slice a m c)
 | v=>k v
def fVd (v:Value) (k:Value→Bool):Bool:=match v with
 | .int kd i=>Zdg i fun i=>k (.int kd i)
 | .bool b=>fB b fun b=>k (.bool b)
 | .pointer (some ⟨l,o,none⟩)=>Jbb l fun l=>Jbb o fun o=>k (.pointer (some ⟨l,o,none⟩))
 | .slice (some ⟨l,o,none⟩) m c=>Jbb l fun l=>Jbb o fun o=>Jbb m fun m=>Jbb c fun c=>k (.slice (some ⟨l,o,none⟩) m c)
 | v=>k v
def fL:List Value→(List Value→Bool)→Bool
 | [],k=>k []
 | v::l,k=>fL l fun l=>k (v::l)
theorem JJ (n:Nat) (k:Nat→Bool):Jbb n k=k n:=by cases n<;>rfl
theorem Jb4 (n:Int) (k:Int→Bool):Zdg n k=k n:=by cases n<;>simp [Zdg,JJ]
theorem Qfl (n:Bool) (k:Bool→Bool):fB n k=k n:=by cases n<;>rfl
theorem ZcH (v:Value) (k:Value→Bool):fV v k=k v:=by
 unfold fV;split<;>rfl
theorem XeX (v:Value) (k:Value→Bool):fVd v k=k v:=by
 unfold fVd;split<;>simp [JJ,Jb4,Qfl]
theorem ZcK: ∀(l:List Value) (k:List Value→Bool),fL l k=k l
 | [],_=>rfl
 | v::l,k=>by simp only [fL];rw [ZcK l]
inductive Tr where
 | nil
 | node (l:Tr) (b:Option Blk) (r:Tr)
def Tr.get:Tr→Nat→Option Blk
 | .nil,_=>none
 | .node l b r,i=>match Nat.beq i 0 with
  | true=>b
  | false=>match Nat.beq (i%2) 1 with
   | true=>l.get ((i-1)/2)
   | false=>r.get ((i-2)/2)
def Tr.setK:Nat→Tr→Nat→Option Blk→(Tr→Bool)→Bool
 | 0,_,_,_,_=>false
 | d+1,t,i,b,k=>match t with
  | .nil=>(match Nat.beq i 0 with
   | true=>k (.node .nil b .nil)
   | false=>match Nat.beq (i%2) 1 with
    | true=>Jbb ((i-1)/2) fun j=>setK d .nil j b fun l=>k (.node l none .nil)
    | false=>Jbb ((i-2)/2) fun j=>setK d .nil j b fun r=>k (.node .nil none r))
  | .node l b0 r=>match Nat.beq i 0 with
   | true=>k (.node l b r)
   | false=>match Nat.beq (i%2) 1 with
    | true=>Jbb ((i-1)/2) fun j=>setK d l j b fun l=>k (.node l b0 r)
    | false=>Jbb ((i-2)/2) fun j=>setK d r j b fun r=>k (.node l b0 r)
theorem JeC (a b:Nat):Nat.beq a b=decide (a=b):=by
 cases hb:Nat.beq a b with
 | true=>simp [Nat.eq_of_beq_eq_true hb]
 | false=>simp [Nat.ne_of_beq_eq_false hb]
theorem Tr.setK_s: ∀(d:Nat) (t:Tr) (i:Nat) (b:Option Blk) (k:Tr→Bool),t.setK d i b k=true→ ∃t':Tr,t'.get=upd t.get i b∧k t'=true
 | 0,_,_,_,_,h=>by simp [setK] at h
 | d+1,t,i,b,k,h=>by
  have key: ∀(l:Tr) (b0:Option Blk) (r:Tr),(match Nat.beq i 0 with
   | true=>k (.node l b r)
   | false=>match Nat.beq (i%2) 1 with
    | true=>Jbb ((i-1)/2) fun j=>setK d l j b fun l=>k (.node l b0 r)
    | false=>Jbb ((i-2)/2) fun j=>setK d r j b fun r=>k (.node l b0 r))=true→ ∃t':Tr,t'.get=upd (Tr.node l b0 r).get i b∧k t'=true:=by
   clear h
   intro l b0 r h
   simp only [JJ,JeC] at h
   split at h
   ·rename_i h0
    have h0:i=0:=by simpa using h0
    subst h0
    refine ⟨_,?_,h⟩
    funext j
    by_cases hj:j=0
    ·subst hj;rw [Xa];rfl
    ·rw [Qc _ _ hj];simp only [Tr.get,JeC,decide_eq_false hj]
   ·rename_i h0
    have h0:i≠0:=by simpa using h0
    split at h
    ·rename_i h1
     have h1:i%2=1:=by simpa using h1
     obtain ⟨t',ht,hk⟩:=setK_s d _ _ _ _ h
     refine ⟨_,?_,hk⟩
     funext j
     by_cases hj:j=i
     ·subst hj;rw [Xa];simp only [Tr.get,JeC,decide_eq_false h0,h1,decide_true,ht,Xa]
     ·rw [Qc _ _ hj]
      simp only [Tr.get,JeC]
      by_cases j0:j=0
      ·simp [j0]
      ·simp only [decide_eq_false j0]
       by_cases j1:j%2=1
       ·simp only [decide_eq_true j1,ht]
        rw [Qc];omega
       ·simp only [decide_eq_false j1]
    ·rename_i h1
     have h1: ¬i%2=1:=by simpa using h1
     obtain ⟨t',ht,hk⟩:=setK_s d _ _ _ _ h
     refine ⟨_,?_,hk⟩
     funext j
     by_cases hj:j=i
     ·subst hj;rw [Xa];simp only [Tr.get,JeC,decide_eq_false h0,decide_eq_false h1,ht,Xa]
     ·rw [Qc _ _ hj]
      simp only [Tr.get,JeC]
      by_cases j0:j=0
      ·simp [j0]
      ·simp only [decide_eq_false j0]
       by_cases j1:j%2=1
       ·simp only [decide_eq_true j1]
       ·simp only [decide_eq_false j1,ht]
        rw [Qc];omega
  cases t with
  | nil=>
   obtain ⟨t',h1,h2⟩:=key .nil none .nil h
   refine ⟨t',?_,h2⟩
   rw [h1]
   congr 1
   funext j
   simp only [Tr.get]
   split<;>first|rfl|(split<;>rfl)
  | node l b0 r=>exact key l b0 r h
def XcK (t:List Value):Env:=fun i=>t.getD i undef
def Qfw:List Value→Nat→Value→(List Value→Bool)→Bool
 | [],_,_,_=>false
 | _::l,0,v,k=>k (v::l)
 | x::l,i+1,v,k=>Qfw l i v fun l=>k (x::l)
theorem QeS: ∀(t:List Value) (i:Nat) (v:Value) (k:List Value→Bool),Qfw t i v k=true→i<t.length∧k (t.set i v)=true
 | [],_,_,_,h=>by simp [Qfw] at h
 | _::l,0,v,k,h=>⟨by simp,h⟩
 | x::l,i+1,v,k,h=>by
  obtain ⟨h1,h2⟩:=QeS l i v _ h
  exact ⟨by simp;omega,h2⟩
theorem XfE (t:List Value) (i:Nat) (v:Value) (hi:i<t.length):XcK (t.set i v)=put (XcK t) (some i) v:=by
 funext j
 simp only [XcK,put,List.getD_eq_getElem?_getD,List.getElem?_set]
 by_cases h:i=j
 ·subst h;simp [hi]
 ·rw [if_neg h,if_neg (fun e=>h e.symm)]
def Jf6 (t:List Value) (d:Option Tmp) (v:Value) (k:List Value→Bool):Bool:=match d with
 | some i=>Qfw t i v k
 | none=>k t
theorem Xgo {t:List Value} {d:Option Tmp} {v:Value} {k:List Value→Bool} (h:Jf6 t d v k=true): ∃t',XcK t'=put (XcK t) d v∧t'.length=t.length∧k t'=true:=by
 cases d with
 | none=>exact ⟨t,rfl,rfl,h⟩
 | some i=>
  obtain ⟨h1,h2⟩:=QeS _ _ _ _ h
  exact ⟨_,XfE _ _ _ h1,by simp,h2⟩
end Go.Proofs.YtmchcjaomcdbmaaGreat.Abs
namespace Go.Proofs.YtmchcjaomcdbmaaGreat.Abs
open Go Go.RowKit
variable {P:Program}
abbrev EK1:=Value→Bool
abbrev EC:=Value→Tr→Nat→Bool
def Qaw:List UInt8→List UInt8→Bool
 | [],[]=>true
 | x::xs,y::ys=>Nat.beq x.toNat y.toNat&&Qaw xs ys
 | _,_=>false
theorem ZbI: ∀{a b:List UInt8},Qaw a b=true→a=b
 | [],[],_=>rfl
 | x::xs,y::ys,h=>by
  simp only [Qaw,JeC,Bool.and_eq_true,decide_eq_true_eq] at h
  rw [UInt8.toNat_inj.1 h.1,ZbI h.2]
 | [],_::_,h=>by cases h
 | _::_,[],h=>by cases h
theorem Qcz: ∀(a:List UInt8),Qaw a a=true
 | []=>rfl
 | x::xs=>by simp only [Qaw,JeC,decide_true,Bool.true_and];exact Qcz xs
def QfN (v:Value) (k:Bool→Bool):Bool:=match v with| .bool b=>k b|_=>false
def XfG (v:Value) (k:Int→Bool):Bool:=match v with| .int _ i=>k i|_=>false
def XfV (v:Value) (k:Nat→Nat→Bool):Bool:=match v with| .pointer (some ⟨l,o,none⟩)=>k l o|_=>false
def Jf2 (v:Value) (k:List Value→Bool):Bool:=match v with| .agg cs=>k cs.toList|_=>false
def Jcp (h:Tr) (l:Nat) (k:List Value→BK→Bool):Bool:=match h.get l with|some (.cells cs b)=>k cs b|_=>false
def Xgh (cs:List Value) (o:Nat) (k:EK1):Bool:=match cs[o]? with|some v=>k v|none=>false
def eLd (h:Tr) (l o:Nat) (k:EK1):Bool:=Jcp h l fun cs _=>Xgh cs o k
def Xgt (h:Tr) (l o z:Nat) (k:List Value→Bool):Bool:=Jcp h l fun cs _=>decide (o+z≤cs.length)&&fL ((cs.drop o).take z) k
def eNew (cs:List Value) (b:BK) (h:Tr) (n:Nat) (k:Nat→Tr→Nat→Bool):Bool:=fL cs fun cs=>Jbb (n+1) fun m=>h.setK 20 n (some (.cells cs b)) fun h=>k n h m
def eSt (h:Tr) (l o:Nat) (v:Value) (k:Tr→Bool):Bool:=Jcp h l fun cs b=>b.rw&&(decide (o<cs.length)&&(isCell v&&fL (cs.set o v) fun cs=>h.setK 20 l (some (.cells cs b)) k))
def Zgr (h:Tr) (l o:Nat) (vs:List Value) (k:Tr→Bool):Bool:=
 Jcp h l fun cs b=>b.rw&&(decide (o+vs.length≤cs.length)&&(vs.all isCell&&fL (splice cs o vs) fun cs=>h.setK 20 l (some (.cells cs b)) k))
def QdV (op:BinOp) (k:IntKind) (a b:Int) (K:EK1):Bool:=
 match op with
 | .add=>Zdg (k.wrap (a+b)) fun i=>K (.int k i)
 | .sub=>Zdg (k.wrap (a-b)) fun i=>K (.int k i)
 | .mul=>Zdg (k.wrap (a*b)) fun i=>K (.int k i)
 | .quo=> !(decide (b=0))&&Zdg (k.wrap (a.tdiv b)) fun i=>K (.int k i)
 | .rem=> !(decide (b=0))&&Zdg (a.tmod b) fun i=>K (.int k i)
 | .and=>Zdg (k.wrap (BitVec.ofInt k.bits a &&& BitVec.ofInt k.bits b).toNat) fun i=>K (.int k i)
 | .or=>Zdg (k.wrap (BitVec.ofInt k.bits a ||| BitVec.ofInt k.bits b).toNat) fun i=>K (.int k i)
 | .xor=>Zdg (k.wrap (BitVec.ofInt k.bits a ^^^ BitVec.ofInt k.bits b).toNat) fun i=>K (.int k i)
 | .andNot=>Zdg (k.wrap (BitVec.ofInt k.bits a &&& ~~~BitVec.ofInt k.bits b).toNat) fun i=>K (.int k i)
 | .eql=>fB (a==b) fun b=>K (.bool b)
 | .neq=>fB (a !=b) fun b=>K (.bool b)
 | .lss=>fB (decide (a<b)) fun b=>K (.bool b)
 | .leq=>fB (decide (a≤b)) fun b=>K (.bool b)
 | .gtr=>fB (decide (a>b)) fun b=>K (.bool b)
 | .geq=>fB (decide (a≥b)) fun b=>K (.bool b)
 | .shl=>decide (0≤b)&&Zdg (k.wrap (a*2^(min b.toNat k.bits))) fun i=>K (.int k i)
 | .shr=>decide (0≤b)&&Zdg (a.fdiv (2^(min b.toNat k.bits))) fun i=>K (.int k i)
def JfL (op:BinOp) (r:Bool) (K:EK1):Bool:=
 match op with
 | .eql=>fB r fun r=>K (.bool r)
 | .neq=>fB (!r) fun r=>K (.bool r)
 | _=>false
def Qgn (op:BinOp) (k k':IntKind):Bool:=match op with| .shl| .shr=>true|_=>decide (k=k')
def QgB (e:EK) (op:BinOp) (x y:Value) (K:EK1):Bool:=
 match e with
 | .int=>match x,y with
  | .int k a,.int k' b=>Qgn op k k'&&QdV op k a b K
  | _,_=>false
 | .bool=>match x,y with
  | .bool a,.bool b=>JfL op (a==b) K
  | _,_=>false
 | .ptr=>match x,y with
  | .pointer none,.pointer q=>JfL op q.isNone K
  | .pointer (some _),.pointer none=>JfL op false K
  | _,_=>false
 | .slice=>match x,y with
  | .slice a _ _,.slice none _ _=>JfL op a.isNone K
  | _,_=>false
 | .agg ks=>match x,y with
  | .agg xs,.agg ys=>match Qj ks xs.toList ys.toList with
   | some r=>JfL op r K
   | none=>false
  | _,_=>false
 | .str=>match x,y with
  | .string a,.string b=>JfL op (Qaw a.data.toList b.data.toList) K
  | _,_=>false
 | .other=>false
def eUn (op:UnOp) (x:Value) (K:EK1):Bool:=
 match op,x with
 | .not,.bool b=>fB (!b) fun b=>K (.bool b)
 | .neg,.int k a=>Zdg (k.wrap (0-a)) fun i=>K (.int k i)
 | _,_=>false
def ZfZ (dst:IntKind) (x:Value) (K:EK1):Bool:=match x with| .int _ a=>Zdg (dst.wrap a) fun i=>K (.int dst i)|_=>false
def ZgC (x:Value) (K:EK1):Bool:=match x with
 | .pointer (some a)=>K (.pointer (some a))
 | .func (.func f) a b=>K (.func (.func f) a b)
 | .slice a n c=>K (.slice a n c)
 | .int k n=>K (.int k n)
 | .bool b=>K (.bool b)
 | _=>false
def JcT (x:Value) (off:Nat) (K:EK1):Bool:=XfV x fun l o=>Jbb (o+off) fun o=>K (ptr l o)
def Zb0 (x i:Value) (z:Nat) (K:EK1):Bool:=
 match x,i with
 | .slice (some ⟨l,o,none⟩) len _,.int _ j=>decide (0≤j)&&(decide (j<len)&&Jbb (o+j.toNat*z) fun o=>K (ptr l o))
 | _,_=>false
def JcF (x i:Value) (len z:Nat) (K:EK1):Bool:=
 match x,i with
 | .pointer (some ⟨l,o,none⟩),.int _ j=>decide (0≤j)&&(decide (j<len)&&Jbb (o+j.toNat*z) fun o=>K (ptr l o))
 | _,_=>false
def Xfv (cs:List Value) (off:Nat) (agg:Option Nat) (K:EK1):Bool:=
 match agg with
 | none=>Xgh cs off K
 | some k=>decide (off+k≤cs.length)&&fL ((cs.drop off).take k) fun cs=>K (.agg cs.toArray)
def XgG (x i:Value) (len z:Nat) (agg:Option Nat) (K:EK1):Bool:=
 Jf2 x fun cs=>XfG i fun j=>decide (0≤j)&&(decide (j<len)&&Xfv cs (j.toNat*z) agg K)
def Jdd (x:Value) (i:Nat) (K:EK1):Bool:=match x with| .tuple vs=>Xgh vs.toList i K|_=>false
def XgC (x:Value) (K:EK1):Bool:=match x with| .slice _ n _=>K (.int .i64 n)|_=>false
def JbJ (x:Option Value) (d m:Nat) (K:Nat→Bool):Bool:=
 match x with
 | none=>K d
 | some v=>XfG v fun i=>decide (0≤i)&&(decide (i≤m)&&Jbb i.toNat K)
def Xe9 (x:Value) (lo hi mx:Option Value) (z:Nat) (K:EK1):Bool:=
 match x with
 | .slice a len c=>
  bif decide (c<LC) then
   JbJ mx c c fun m=>JbJ hi len m fun h=>JbJ lo 0 h fun l=>fVd (.slice (if m=l then a else a.map (·.add (l*z))) (h-l) (m-l)) K
  else
   decide (c=LC+z)&&match mx with
   | none=>JbJ hi len len fun h=>JbJ lo 0 h fun l=>fVd (.slice (a.map (·.add (l*z))) (h-l) (LC+z)) K
   | some mx=>JbJ (some mx) 0 len fun m=>decide (m<LC)&&JbJ hi 0 m fun h=>JbJ lo 0 h fun l=>fVd (.slice (a.map (·.add (l*z))) (h-l) (m-l)) K
 | _=>false
def JdB (h:Tr) (x:Value) (k z:Nat) (K:List Value→Bool):Bool:=
 match x with
 | .slice none _ _=>decide (k*z=0)&&K []
 | .slice (some ⟨l,o,none⟩) _ _=>bif decide (k*z=0) then K [] else Xgt h l o (k*z) K
 | _=>false
def XdL (s x:Value) (z bytes:Nat) (h:Tr) (n:Nat) (K:EC):Bool:=
 match s,x with
 | .slice base len c,.slice _ k _=>
  decide (bytes≤1048576)&&(decide ((len+k)*bytes≤140737488355328)&&(decide (len+k<140737488355328)&&JdB h x k z fun new=>new.all isCell&&
  bif decide (c<LC) then
   bif decide (len+k≤c) then
    match base with
    | none=>new.isEmpty&&Jbb (len+k) fun m=>K (.slice none m c) h n
    | some ⟨l,o,none⟩=>bif new.isEmpty then Jbb (len+k) fun m=>K (.slice (some ⟨l,o,none⟩) m c) h n else Zgr h l (o+len*z) new fun h=>Jbb (len+k) fun m=>K (.slice (some ⟨l,o,none⟩) m c) h n
    | _=>false
   else JdB h s len z fun old=>eNew (old++new) (.loose z) h n fun l h n=>Jbb (len+k) fun m=>K (.slice (some ⟨l,0,none⟩) m (LC+z)) h n
  else match base with
   | some ⟨l,o,none⟩=>decide (c=LC+z)&&Jcp h l fun cs bk=>(match bk with| .loose z'=>decide (z'=z)|_=>false)&&(decide (o+len*z≤cs.length)&&
     h.setK 20 l none fun h=>eNew (((cs.drop o).take (len*z))++new) (.loose z) h n fun l h n=>Jbb (len+k) fun m=>K (.slice (some ⟨l,0,none⟩) m (LC+z)) h n)
   | _=>false))
 | _,_=>false
def Qc8 (s x:Value) (zero:List Value) (bytes:Nat) (h:Tr) (n:Nat) (K:EC):Bool:=
 match s,x with
 | .slice none 0 0,.int .i64 a=>decide (0<zero.length)&&(decide (0<a)&&(decide (a<1099511627776)&&(decide (a.toNat*bytes≤1099511627776)&&
  eNew (reps a.toNat zero) (.loose zero.length) h n fun l h n=>Jbb a.toNat fun m=>K (.slice (some ⟨l,0,none⟩) m (LC+zero.length)) h n)))
 | _,_=>false
def Qf3 (d s:Value) (z:Nat) (h:Tr) (K:Value→Tr→Bool):Bool:=
 match d,s with
 | .slice base len _,.slice _ k _=>JdB h s (min k len) z fun new=>new.all isCell&&
  match base with
  | none=>Jbb (min k len) fun m=>K (.int .i64 (m:Nat)) h
  | some ⟨l,o,none⟩=>bif new.isEmpty then Jbb (min k len) fun m=>K (.int .i64 (m:Nat)) h else Zgr h l o new fun h=>Jbb (min k len) fun m=>K (.int .i64 (m:Nat)) h
  | _=>false
 | _,_=>false
def Xe0 (x:Value) (zero:List Value) (h:Tr) (K:Value→Tr→Bool):Bool:=
 match x with
 | .slice none _ _=>K undef h
 | .slice (some ⟨l,o,none⟩) len _=>bif decide (len=0)||zero.isEmpty then K undef h else Zgr h l o (reps len zero) fun h=>K undef h
 | _=>false
def Zgh (len cap:Value) (zero:List Value) (bytes:Nat) (h:Tr) (n:Nat) (K:EC):Bool:=
 XfG len fun a=>XfG cap fun c=>decide (0≤a)&&(decide (a≤c)&&(decide (c*bytes≤1099511627776)&&(decide (c≤1099511627776)&&
  eNew (reps c.toNat zero) .exact h n fun l h n=>Jbb a.toNat fun a=>Jbb c.toNat fun c=>K (.slice (some ⟨l,0,none⟩) a c) h n)))
def ZdF (cs:List Value):List (Nat×Option Nat×Value)→(List Value→Bool)→Bool
 | [],K=>K cs
 |(off,none,v)::r,K=>isCell v&&(decide (off<cs.length)&&ZdF (cs.set off v) r K)
 |(off,some k,v)::r,K=>Jf2 v fun vs=>decide (vs.length=k)&&(decide (off+k≤cs.length)&&ZdF (splice cs off vs) r K)
abbrev EM:=List (Value×Value)
def fP:EM→(EM→Bool)→Bool
 | [],k=>k []
 | e::l,k=>fP l fun l=>k (e::l)
theorem Zgq: ∀(l:EM) (k:EM→Bool),fP l k=k l
 | [],_=>rfl
 | v::l,k=>by simp only [fP];rw [Zgq l]
def XfF (h:Tr) (l:Nat) (k:EM→Bool):Bool:=match h.get l with|some (.map es)=>k es|_=>false
def Jgo (kk:IntKind) (key:Value) (K:Int→Bool):Bool:=match key with| .int k a=>decide (k=kk)&&K a|_=>false
def Xe5 (kk:IntKind) (a:Int) (es:EM) (K:Option Nat→Bool):Bool:=match JdK kk a es 0 with|some r=>K r|none=>false
def eAt (es:EM) (i:Nat) (K:Value×Value→Bool):Bool:=match es[i]? with|some e=>K e|none=>false
def Je6 (b:Blk) (h:Tr) (n:Nat) (K:Nat→Tr→Nat→Bool):Bool:=Jbb (n+1) fun m=>h.setK 20 n (some b) fun h=>K n h m
def JdN (h:Tr) (l:Nat) (es:EM) (K:Tr→Bool):Bool:=fP es fun es=>h.setK 20 l (some (.map es)) K
def Qfi (kk:IntKind) (x ix z:Value) (ok:Bool) (h:Tr) (K:EK1):Bool:=
 Jgo kk ix fun a=>match x with
 | .map none=>K (match ok with|true=> .tuple #[z,.bool false]|false=>z)
 | .map (some l)=>XfF h l fun es=>Xe5 kk a es fun r=>match r with
  | some i=>eAt es i fun e=>K (match ok with|true=> .tuple #[e.2,.bool true]|false=>e.2)
  | none=>K (match ok with|true=> .tuple #[z,.bool false]|false=>z)
 | _=>false
def Jfb (kk:IntKind) (m key x:Value) (h:Tr) (K:Tr→Bool):Bool:=
 Jgo kk key fun a=>match m with
 | .map (some l)=>XfF h l fun es=>Xe5 kk a es fun r=>match r with
  | some i=>JdN h l (es.set i (.int kk a,x)) K
  | none=>JdN h l (es++[(.int kk a,x)]) K
 | _=>false
def Jdt (kk:IntKind) (m key z:Value) (h:Tr) (K:Value→Tr→Bool):Bool:=
 Jgo kk key fun a=>match m with
 | .map (some l)=>XfF h l fun es=>Xe5 kk a es fun r=>match r with
  | some i=>eAt es i fun e=>JdN h l (es.set i (.int kk a,e.2)) fun h=>K (.tuple #[e.2,.int .i64 i]) h
  | none=>JdN h l (es++[(.int kk a,z)]) fun h=>K (.tuple #[z,.int .i64 es.length]) h
 | _=>false
def Jcu (m s x:Value) (h:Tr) (K:Tr→Bool):Bool:=
 XfG s fun j=>match m with
 | .map (some l)=>XfF h l fun es=>decide (0≤j)&&eAt es j.toNat fun e=>JdN h l (es.set j.toNat (e.1,x)) K
 | _=>false
def Zfc (x:Value) (h:Tr) (n:Nat) (K:Nat→Tr→Nat→Bool):Bool:=
 match x with
 | .map (some l)=>XfF h l fun es=>Jbb es.length fun c=>Je6 (.iter l c []) h n K
 | _=>false
def QfA (it:Value) (h:Tr) (K:Nat→Nat→EM→List Nat→Bool):Bool:=
 match it with
 | .pointer (some ⟨p,0,none⟩)=>match h.get p with
  | some (.iter l cnt seen)=>XfF h l fun es=>decide (es.length=cnt)&&K p l es seen
  | _=>false
 | _=>false
def QfF (F:Nat→Value×Value→Bool) (seen:List Nat):Nat→EM→Bool
 | _,[]=>true
 | i,e::es=>(bif seen.contains i then true else F i e)&&QfF F seen (i+1) es
def Jgp (it:Value) (h:Tr) (K:Value→Tr→Bool):Bool:=
 QfA it h fun p l es seen=>(bif (List.range es.length).all seen.contains then K (.tuple #[.bool false]) h else true)&&
  QfF (fun i kv=>Jbb i fun i=>h.setK 20 p (some (.iter l es.length (seen++[i]))) fun h=>K (.tuple #[.bool true,kv.1,kv.2]) h) seen 0 es
def QfM (it:Value) (h:Tr) (K:EK1):Bool:=
 QfA it h fun _ _ es seen=>match seen.getLast? with
 | some i=>eAt es i fun kv=>K (.tuple #[kv.1,kv.2])
 | none=>false
def QgD (x:Value) (K:EK1):Bool:=match x with| .slice _ _ c=>(bif decide (c<LC) then K (.int .i64 (c:Nat)) else false)|_=>false
def Xf5 (x:Value) (K:EK1):Bool:=match x with| .string s=>Jbb s.size fun m=>K (.int .i64 (m:Nat))|_=>false
def Zf8 (x i:Value) (K:EK1):Bool:=
 match x,i with
 | .string s,.int _ j=>decide (0≤j)&&(match s[j.toNat]? with|some b=>Jbb b.toNat fun m=>K (.int .u8 (m:Nat))|none=>false)
 | _,_=>false
section
variable {h:Tr} {n:Nat}
theorem XfY {v:Value} {k:Bool→Bool} {K:Bool→Prop} (hk: ∀b,k b=true→K b) (e:QfN v k=true):ZcI v K:=by
 unfold QfN at e;unfold ZcI;split at e<;>first|exact hk _ e|cases e
theorem XcV {v:Value} {k:Int→Bool} {K:Int→Prop} (hk: ∀b,k b=true→K b) (e:XfG v k=true):Xd5 v K:=by
 unfold XfG at e;unfold Xd5;split at e<;>first|exact hk _ e|cases e
theorem Xdx {v:Value} {k:Nat→Nat→Bool} {K:Nat→Nat→Prop} (hk: ∀l o,k l o=true→K l o) (e:XfV v k=true):Zd v K:=by
 unfold XfV at e;unfold Zd;split at e<;>first|exact hk _ _ e|cases e
theorem Zdo {v:Value} {k:List Value→Bool} {K:List Value→Prop} (hk: ∀b,k b=true→K b) (e:Jf2 v k=true):Xn v K:=by
 unfold Jf2 at e;unfold Xn;split at e<;>first|exact hk _ e|cases e
theorem XbK {l:Nat} {k:List Value→BK→Bool} {K:List Value→BK→Prop} (hk: ∀c b,k c b=true→K c b) (e:Jcp h l k=true):Jap h.get l K:=by
 unfold Jcp at e;unfold Jap;split at e
 ·rename_i cs b hg;rw [hg];exact hk _ _ e
 ·cases e
theorem ZeK {cs:List Value} {o:Nat} {k:EK1} {K:Value→Prop} (hk: ∀b,k b=true→K b) (e:Xgh cs o k=true):Jc1 cs o K:=by
 unfold Xgh at e;unfold Jc1;split at e
 ·rename_i v hg;rw [hg];exact hk _ e
 ·cases e
theorem QdG {l o:Nat} {k:EK1} {K:Value→Prop} (hk: ∀b,k b=true→K b) (e:eLd h l o k=true):kLd h.get l o K:=XbK (fun _ _=>ZeK hk) e
theorem Ze4 {l o z:Nat} {k:List Value→Bool} {K:List Value→Prop} (hk: ∀b,k b=true→K b) (e:Xgt h l o z k=true):Zo h.get l o z K:=
 XbK (fun _ _ e=>by simp only [Bool.and_eq_true,decide_eq_true_eq,ZcK] at e;exact ⟨e.1,hk _ e.2⟩) e
theorem Zb6 {cs:List Value} {b:BK} {k:Nat→Tr→Nat→Bool} {K:Nat→G→Nat→Prop} (hk: ∀l h n,k l h n=true→K l h.get n) (e:eNew cs b h n k=true):Jw cs b h.get n K:=by
 intro _
 simp only [eNew,ZcK,JJ] at e
 obtain ⟨t,ht,e⟩:=Tr.setK_s _ _ _ _ _ e
 rw [←ht];exact hk _ _ _ e
theorem Qei {l o:Nat} {v:Value} {k:Tr→Bool} {K:G→Prop} (hk: ∀h,k h=true→K h.get) (e:eSt h l o v k=true):kSt h.get l o v K:=
 XbK (fun cs b e=>by
  simp only [Bool.and_eq_true,decide_eq_true_eq,ZcK] at e
  obtain ⟨e1,e2,e3,e⟩:=e
  obtain ⟨t,ht,e⟩:=Tr.setK_s _ _ _ _ _ e
  exact ⟨e1,e2,e3,by rw [←ht];exact hk _ e⟩) e
theorem Xd8 {l o:Nat} {vs:List Value} {k:Tr→Bool} {K:G→Prop} (hk: ∀h,k h=true→K h.get) (e:Zgr h l o vs k=true):Qx h.get l o vs K:=
 XbK (fun cs b e=>by
  simp only [Bool.and_eq_true,decide_eq_true_eq,ZcK] at e
  obtain ⟨e1,e2,e3,e⟩:=e
  obtain ⟨t,ht,e⟩:=Tr.setK_s _ _ _ _ _ e
  exact ⟨e1,e2,List.all_eq_true.1 e3,by rw [←ht];exact hk _ e⟩) e
theorem XeS {op:BinOp} {kd:IntKind} {a b:Int} {k:EK1} {K:Value→Prop} (hk: ∀b,k b=true→K b) (e:QdV op kd a b k=true):ZG op kd a b K:=by
 cases op<;>simp only [QdV,Jb4,Qfl,Bool.and_eq_true,Bool.not_eq_true',decide_eq_false_iff_not,decide_eq_true_eq] at e<;>simp only [ZG]<;>
  first|exact hk _ e|exact ⟨e.1,hk _ e.2⟩
theorem JcP {op:BinOp} {r:Bool} {k:EK1} {K:Value→Prop} (hk: ∀b,k b=true→K b) (e:JfL op r k=true):Qdg op r K:=by
 cases op<;>simp only [JfL,Qfl] at e<;>simp only [Qdg]<;>first|exact hk _ e|cases e
theorem Zgf {ek:EK} {op:BinOp} {x y:Value} {k:EK1} {K:Value→Prop} (hk: ∀b,k b=true→K b) (e:QgB ek op x y k=true):Qb ek op x y K:=by
 unfold QgB at e;unfold Qb
 split at e
 ·split at e
  ·simp only [Bool.and_eq_true] at e
   refine ⟨?_,XeS hk e.2⟩
   have e:=e.1
   cases op<;>simp only [Qgn,decide_eq_true_eq] at e<;>first|exact e|trivial
  ·cases e
 ·split at e
  ·exact JcP hk e
  ·cases e
 ·split at e
  ·exact JcP hk e
  ·exact JcP hk e
  ·cases e
 ·split at e
  ·exact JcP hk e
  ·cases e
 ·split at e
  ·split at e
   ·rename_i hl;simp only [hl];exact JcP hk e
   ·cases e
  ·cases e
 ·split at e
  ·rename_i a b
   have:Qaw a.data.toList b.data.toList=(a==b):=by
    rw [Bool.eq_iff_iff,MapKept.bytes_beq]
    constructor
    ·intro h
     have:=ZbI h
     cases a;cases b
     simp only at this
     congr 1
     exact Array.ext' this
    ·rintro rfl;exact Qcz _
   rw [this] at e
   exact JcP hk e
  ·cases e
 ·cases e
theorem Qgx {op:UnOp} {x:Value} {k:EK1} {K:Value→Prop} (hk: ∀b,k b=true→K b) (e:eUn op x k=true):kUn op x K:=by
 unfold eUn at e;unfold kUn
 split at e
 ·rw [Qfl] at e;exact hk _ e
 ·rw [Jb4] at e;exact hk _ e
 ·cases e
theorem XfM {d:IntKind} {x:Value} {k:EK1} {K:Value→Prop} (hk: ∀b,k b=true→K b) (e:ZfZ d x k=true):Jcd d x K:=by
 unfold ZfZ at e;unfold Jcd
 split at e
 ·rw [Jb4] at e;exact hk _ e
 ·cases e
theorem Jgb {x:Value} {k:EK1} {K:Value→Prop} (hk: ∀b,k b=true→K b) (e:ZgC x k=true):Zp x K:=by
 unfold ZgC at e;unfold Zp
 split at e<;>first|exact hk _ e|cases e
theorem Qdj {x:Value} {off:Nat} {k:EK1} {K:Value→Prop} (hk: ∀b,k b=true→K b) (e:JcT x off k=true):Jat x off K:=
 Xdx (fun l o e=>by rw [JJ] at e;exact hk _ e) e
theorem Zdh {x i:Value} {z:Nat} {k:EK1} {K:Value→Prop} (hk: ∀b,k b=true→K b) (e:Zb0 x i z k=true):Xc x i z K:=by
 unfold Zb0 at e;unfold Xc
 split at e
 ·simp only [Bool.and_eq_true,decide_eq_true_eq,JJ] at e;exact ⟨e.1,e.2.1,hk _ e.2.2⟩
 ·cases e
theorem JdT {x i:Value} {len z:Nat} {k:EK1} {K:Value→Prop} (hk: ∀b,k b=true→K b) (e:JcF x i len z k=true):ZE x i len z K:=by
 unfold JcF at e;unfold ZE
 split at e
 ·simp only [Bool.and_eq_true,decide_eq_true_eq,JJ] at e;exact ⟨e.1,e.2.1,hk _ e.2.2⟩
 ·cases e
theorem Qe9 {cs:List Value} {off:Nat} {a:Option Nat} {k:EK1} {K:Value→Prop} (hk: ∀b,k b=true→K b) (e:Xfv cs off a k=true):ZaZ cs off a K:=by
 cases a with
 | none=>exact ZeK hk e
 | some z=>simp only [Xfv,Bool.and_eq_true,decide_eq_true_eq,ZcK] at e;exact ⟨e.1,hk _ e.2⟩
theorem Jgm {x i:Value} {len z:Nat} {a:Option Nat} {k:EK1} {K:Value→Prop} (hk: ∀b,k b=true→K b) (e:XgG x i len z a k=true):Xdg x i len z a K:=
 Zdo (fun _=>XcV fun _ e=>by simp only [Bool.and_eq_true,decide_eq_true_eq] at e;exact ⟨e.1,e.2.1,Qe9 hk e.2.2⟩) e
theorem Xeo {x:Value} {i:Nat} {k:EK1} {K:Value→Prop} (hk: ∀b,k b=true→K b) (e:Jdd x i k=true):Xd x i K:=by
 unfold Jdd at e;unfold Xd;split at e<;>first|exact ZeK hk e|cases e
theorem Xgl {x:Value} {k:EK1} {K:Value→Prop} (hk: ∀b,k b=true→K b) (e:XgC x k=true):QaN x K:=by
 unfold XgC at e;unfold QaN;split at e<;>first|exact hk _ e|cases e
theorem JaJ {x:Option Value} {d m:Nat} {k:Nat→Bool} {K:Nat→Prop} (hk: ∀b,k b=true→K b) (e:JbJ x d m k=true):ZK x d m K:=by
 cases x with
 | none=>exact hk _ e
 | some v=>exact XcV (fun _ e=>by simp only [Bool.and_eq_true,decide_eq_true_eq,JJ] at e;exact ⟨e.1,e.2.1,hk _ e.2.2⟩) e
theorem Zfx {x:Value} {lo hi mx:Option Value} {z:Nat} {k:EK1} {K:Value→Prop} (hk: ∀b,k b=true→K b) (e:Xe9 x lo hi mx z k=true):Ju x lo hi mx z K:=by
 unfold Xe9 at e;unfold Ju
 split at e
 ·rename_i a len c
  by_cases hc:c<LC
  ·simp only [decide_eq_true hc,cond_true] at e
   simp only [if_pos hc]
   exact JaJ (fun _=>JaJ fun _=>JaJ fun _ e=>hk _ (by rw [XeX] at e;exact e)) e
  ·simp only [decide_eq_false hc,cond_false,Bool.and_eq_true,decide_eq_true_eq] at e
   simp only [if_neg hc]
   refine ⟨e.1,?_⟩
   have e:=e.2
   cases mx with
   | none=>exact JaJ (fun _=>JaJ fun _ e=>hk _ (by rw [XeX] at e;exact e)) e
   | some mx=>exact JaJ (fun _ e=>by
     simp only [Bool.and_eq_true,decide_eq_true_eq] at e
     exact ⟨e.1,JaJ (fun _=>JaJ fun _ e=>hk _ (by rw [XeX] at e;exact e)) e.2⟩) e
 ·cases e
theorem Qc3 {x:Value} {m z:Nat} {k:List Value→Bool} {K:List Value→Prop} (hk: ∀b,k b=true→K b) (e:JdB h x m z k=true):X4 h.get x m z K:=by
 unfold JdB at e;unfold X4
 split at e
 ·simp only [Bool.and_eq_true,decide_eq_true_eq] at e;exact ⟨e.1,hk _ e.2⟩
 ·by_cases hc:m*z=0
  ·simp only [decide_eq_true hc,cond_true] at e;simp only [if_pos hc];exact hk _ e
  ·simp only [decide_eq_false hc,cond_false] at e;simp only [if_neg hc];exact Ze4 hk e
 ·cases e
theorem Ze6 {α:Type} {l:List α} (e:l.isEmpty=true):l=[]:=by simpa using e
theorem JeB {s x:Value} {z:List Value} {bytes:Nat} {k:EC} {K:Cont} (hk: ∀v h n,k v h n=true→K v h.get n) (e:Qc8 s x z bytes h n k=true):XaM s x z bytes h.get n K:=by
 unfold Qc8 at e;unfold XaM
 split at e
 ·simp only [Bool.and_eq_true,decide_eq_true_eq,JJ] at e
  exact ⟨e.1,e.2.1,e.2.2.1,e.2.2.2.1,Zb6 (fun l h n e=>hk _ _ _ e) e.2.2.2.2⟩
 ·cases e
theorem Je5 {s x:Value} {z bytes:Nat} {k:EC} {K:Cont} (hk: ∀v h n,k v h n=true→K v h.get n) (e:XdL s x z bytes h n k=true):Zae s x z bytes h.get n K:=by
 unfold XdL at e;unfold Zae
 split at e
 ·rename_i base len c ax m cx
  simp only [Bool.and_eq_true,decide_eq_true_eq] at e
  obtain ⟨e1,e2,e3,e⟩:=e
  refine ⟨e1,e2,e3,Qc3 (fun new e=> ?_) e⟩
  simp only [Bool.and_eq_true] at e
  refine ⟨List.all_eq_true.1 e.1,?_⟩
  have e:=e.2
  by_cases hc:c<LC
  ·simp only [decide_eq_true hc,cond_true] at e
   simp only [if_pos hc]
   by_cases hc2:len+m≤c
   ·simp only [decide_eq_true hc2,cond_true] at e
    simp only [if_pos hc2]
    split at e
    ·simp only [Bool.and_eq_true,JJ] at e;exact ⟨Ze6 e.1,hk _ _ _ e.2⟩
    ·by_cases hn:new=[]
     ·subst hn;simp only [List.isEmpty_nil,cond_true,JJ] at e;simp only [if_true];exact hk _ _ _ e
     ·have:new.isEmpty=false:=by simpa using hn
      simp only [this,cond_false,JJ] at e
      simp only [if_neg hn]
      exact Xd8 (fun h e=>hk _ _ _ e) e
    ·cases e
   ·simp only [decide_eq_false hc2,cond_false] at e
    simp only [if_neg hc2]
    exact Qc3 (fun old e=>Zb6 (fun l h n e=>hk _ _ _ (by rw [JJ] at e;exact e)) e) e
  ·simp only [decide_eq_false hc,cond_false] at e
   simp only [if_neg hc]
   split at e
   ·simp only [Bool.and_eq_true,decide_eq_true_eq] at e
    rename_i l o _ _
    refine ⟨e.1,XbK (fun cs bk e=> ?_) e.2⟩
    simp only [Bool.and_eq_true,decide_eq_true_eq] at e
    obtain ⟨e1,e2,e⟩:=e
    refine ⟨by cases bk<;>simp at e1 ⊢;exact e1,e2,?_⟩
    obtain ⟨t,ht,e⟩:=Tr.setK_s _ _ _ _ _ e
    intro hn
    have:=Zb6 (K:=fun l g n=>K (.slice (some ⟨l,0,none⟩) _ (LC+z)) g n) (fun l h n e=>hk _ _ _ (by rw [JJ] at e;exact e)) e
    rw [ht] at this
    refine this ?_
    by_cases hl:n=l
    ·rw [hl,Xa]
    ·rw [Qc _ _ hl];exact hn
   ·cases e
 ·cases e
theorem QfT {d s:Value} {z:Nat} {k:Value→Tr→Bool} {K:Value→G→Prop} (hk: ∀v h,k v h=true→K v h.get) (e:Qf3 d s z h k=true):Qbj d s z h.get K:=by
 unfold Qf3 at e;unfold Qbj
 split at e
 ·refine Qc3 (fun new e=> ?_) e
  simp only [Bool.and_eq_true] at e
  refine ⟨List.all_eq_true.1 e.1,?_⟩
  have e:=e.2
  split at e
  ·rw [JJ] at e;exact hk _ _ e
  ·by_cases hn:new=[]
   ·subst hn;simp only [List.isEmpty_nil,cond_true,JJ] at e;simp only [if_true];exact hk _ _ e
   ·have:new.isEmpty=false:=by simpa using hn
    simp only [this,cond_false,JJ] at e
    simp only [if_neg hn]
    exact Xd8 (fun h e=>hk _ _ e) e
  ·cases e
 ·cases e
theorem Zfw {x:Value} {zero:List Value} {k:Value→Tr→Bool} {K:Value→G→Prop} (hk: ∀v h,k v h=true→K v h.get) (e:Xe0 x zero h k=true):Zaw x zero h.get K:=by
 unfold Xe0 at e;unfold Zaw
 split at e
 ·exact hk _ _ e
 ·rename_i l o len c
  by_cases hn:len=0∨zero=[]
  ·have:(decide (len=0)||zero.isEmpty)=true:=by simpa using hn
   simp only [this,cond_true] at e
   simp only [if_pos hn];exact hk _ _ e
  ·have:(decide (len=0)||zero.isEmpty)=false:=by
    rw [Bool.eq_false_iff];intro h;exact hn (by simpa using h)
   simp only [this,cond_false] at e
   simp only [if_neg hn];exact Xd8 (fun h e=>hk _ _ e) e
 ·cases e
theorem QfZ {len cap:Value} {zero:List Value} {bytes:Nat} {k:EC} {K:Cont} (hk: ∀v h n,k v h n=true→K v h.get n) (e:Zgh len cap zero bytes h n k=true):QbD len cap zero bytes h.get n K:=
 XcV (fun a=>XcV fun c e=>by
  simp only [Bool.and_eq_true,decide_eq_true_eq] at e
  exact ⟨e.1,e.2.1,e.2.2.1,e.2.2.2.1,Zb6 (fun l h n e=>hk _ _ _ (by simpa only [JJ] using e)) e.2.2.2.2⟩) e
theorem Xcp: ∀{l:List (Nat×Option Nat×Value)} {cs:List Value} {k:List Value→Bool} {K:List Value→Prop},(∀l,k l=true→K l)→ZdF cs l k=true→Qi cs l K
 | [],cs,k,K,hk,e=>hk _ e
 |(off,none,v)::r,cs,k,K,hk,e=>by
  simp only [ZdF,Bool.and_eq_true,decide_eq_true_eq] at e
  exact ⟨e.1,e.2.1,Xcp hk e.2.2⟩
 |(off,some z,v)::r,cs,k,K,hk,e=>Zdo (fun _ e=>by
  simp only [Bool.and_eq_true,decide_eq_true_eq] at e
  exact ⟨e.1,e.2.1,Xcp hk e.2.2⟩) e
theorem QcU {l:Nat} {k:EM→Bool} {K:EM→Prop} (hk: ∀b,k b=true→K b) (e:XfF h l k=true):Qej h.get l K:=by
 unfold XfF at e;unfold Qej;split at e
 ·rename_i es hg;rw [hg];exact hk _ e
 ·cases e
theorem JeF {kk:IntKind} {v:Value} {k:Int→Bool} {K:Int→Prop} (hk: ∀b,k b=true→K b) (e:Jgo kk v k=true):Jfi kk v K:=by
 unfold Jgo at e;unfold Jfi;split at e
 ·simp only [Bool.and_eq_true,decide_eq_true_eq] at e;exact ⟨e.1,hk _ e.2⟩
 ·cases e
theorem QdD {kk:IntKind} {a:Int} {es:EM} {k:Option Nat→Bool} {K:Option Nat→Prop} (hk: ∀b,k b=true→K b) (e:Xe5 kk a es k=true):QcI kk a es K:=by
 unfold Xe5 at e;unfold QcI;split at e
 ·rename_i r hr;rw [hr];exact hk _ e
 ·cases e
theorem Jft {es:EM} {i:Nat} {k:Value×Value→Bool} {K:Value×Value→Prop} (hk: ∀b,k b=true→K b) (e:eAt es i k=true):kAt es i K:=by
 unfold eAt at e;unfold kAt;split at e
 ·rename_i r hr;rw [hr];exact hk _ e
 ·cases e
theorem XdE {b:Blk} {k:Nat→Tr→Nat→Bool} {K:Nat→G→Nat→Prop} (hk: ∀l h n,k l h n=true→K l h.get n) (e:Je6 b h n k=true):JdV b h.get n K:=by
 intro _
 simp only [Je6,JJ] at e
 obtain ⟨t,ht,e⟩:=Tr.setK_s _ _ _ _ _ e
 rw [←ht];exact hk _ _ _ e
theorem Qcx {l:Nat} {es:EM} {k:Tr→Bool} {K:G→Prop} (hk: ∀h,k h=true→K h.get) (e:JdN h l es k=true):K (upd h.get l (some (.map es))):=by
 simp only [JdN,Zgq] at e
 obtain ⟨t,ht,e⟩:=Tr.setK_s _ _ _ _ _ e
 rw [←ht];exact hk _ e
theorem XeR {kk:IntKind} {x i z:Value} {ok:Bool} {k:EK1} {K:Value→Prop} (hk: ∀b,k b=true→K b) (e:Qfi kk x i z ok h k=true):ZcB kk x i z ok h.get K:=by
 refine JeF (fun a e=> ?_) e
 split at e
 ·exact hk _ e
 ·refine QcU (fun es=>QdD fun r e=> ?_) e
  cases r with
  | some i=>exact Jft (fun _=>hk _) e
  | none=>exact hk _ e
 ·cases e
theorem Jds {kk:IntKind} {x i z:Value} {k:Tr→Bool} {K:G→Prop} (hk: ∀h,k h=true→K h.get) (e:Jfb kk x i z h k=true):Xcm kk x i z h.get K:=by
 refine JeF (fun a e=> ?_) e
 split at e
 ·refine QcU (fun es=>QdD fun r e=> ?_) e
  cases r with
  | some i=>exact Qcx hk e
  | none=>exact Qcx hk e
 ·cases e
theorem XdS {kk:IntKind} {x i z:Value} {k:Value→Tr→Bool} {K:Value→G→Prop} (hk: ∀v h,k v h=true→K v h.get) (e:Jdt kk x i z h k=true):Zbd kk x i z h.get K:=by
 refine JeF (fun a e=> ?_) e
 split at e
 ·refine QcU (fun es=>QdD fun r e=> ?_) e
  cases r with
  | some i=>exact Jft (fun e'=>Qcx (K:=fun g=>K _ g) (hk _)) e
  | none=>exact Qcx (K:=fun g=>K _ g) (hk _) e
 ·cases e
theorem Zdb {x i z:Value} {k:Tr→Bool} {K:G→Prop} (hk: ∀h,k h=true→K h.get) (e:Jcu x i z h k=true):ZaG x i z h.get K:=by
 refine XcV (fun a e=> ?_) e
 split at e
 ·refine QcU (fun es e=> ?_) e
  simp only [Bool.and_eq_true,decide_eq_true_eq] at e
  exact ⟨e.1,Jft (fun _=>Qcx hk) e.2⟩
 ·cases e
theorem Jfn {x:Value} {k:Nat→Tr→Nat→Bool} {K:Nat→G→Nat→Prop} (hk: ∀l h n,k l h n=true→K l h.get n) (e:Zfc x h n k=true):Xb6 x h.get n K:=by
 unfold Zfc at e;unfold Xb6
 split at e
 ·exact QcU (fun es e=>by rw [JJ] at e;exact XdE hk e) e
 ·cases e
theorem Jff {x:Value} {k:Nat→Nat→EM→List Nat→Bool} {K:Nat→Nat→EM→List Nat→Prop} (hk: ∀p l e s,k p l e s=true→K p l e s) (e:QfA x h k=true):XcZ x h.get K:=by
 unfold QfA at e;unfold XcZ
 split at e
 ·split at e
  ·rename_i hg
   simp only [hg]
   exact QcU (fun es e=>by simp only [Bool.and_eq_true,decide_eq_true_eq] at e;exact ⟨e.1,hk _ _ _ _ e.2⟩) e
  ·cases e
 ·cases e
theorem QeI {F:Nat→Value×Value→Bool} {seen:List Nat}: ∀(es:EM) (i:Nat),QfF F seen i es=true→ ∀(j:Nat) (kv:Value×Value),es[j]? =some kv→i+j∉seen→F (i+j) kv=true
 | [],_,_,j,kv,hj,_=>by simp at hj
 | e::es,i,h,j,kv,hj,hn=>by
  simp only [QfF,Bool.and_eq_true] at h
  cases j with
  | zero=>
   simp at hj;subst hj
   have h1:=h.1
   have:seen.contains i=false:=by simpa using hn
   rw [this] at h1
   exact h1
  | succ j=>
   have:=QeI es (i+1) h.2 j kv (by simpa using hj) (by rw [show i+1+j=i+(j+1) by omega];exact hn)
   rw [show i+1+j=i+(j+1) by omega] at this
   exact this
theorem QfQ {x:Value} {k:Value→Tr→Bool} {K:Value→G→Prop} (hk: ∀v h,k v h=true→K v h.get) (e:Jgp x h k=true):JeT x h.get K:=by
 refine Jff (fun p l es seen e=> ?_) e
 simp only [Bool.and_eq_true] at e
 refine ⟨fun hall=> ?_,fun i kv hn hi=> ?_⟩
 ·have h1:=e.1
  have:(List.range es.length).all seen.contains=true:=by
   rw [List.all_eq_true];intro i hi
   have:=hall i (List.mem_range.1 hi)
   simpa using this
  rw [this] at h1
  exact hk _ _ h1
 ·have:=QeI es 0 e.2 i kv hi (by simpa using hn)
  simp only [Nat.zero_add,JJ] at this
  obtain ⟨t,ht,e⟩:=Tr.setK_s _ _ _ _ _ this
  rw [←ht];exact hk _ _ e
theorem Qfs {x:Value} {k:EK1} {K:Value→Prop} (hk: ∀b,k b=true→K b) (e:QfM x h k=true):Qdi x h.get K:=by
 refine Jff (fun p l es seen e=> ?_) e
 revert e;generalize seen.getLast? =u;intro e
 cases u with
 | none=>cases e
 | some i=>exact Jft (fun _=>hk _) e
theorem Xgd {x:Value} {k:EK1} {K:Value→Prop} (hk: ∀b,k b=true→K b) (e:QgD x k=true):XfH x K:=by
 unfold QgD at e;unfold XfH;split at e
 ·rename_i c
  by_cases hc:c<LC
  ·rw [decide_eq_true hc] at e;simp only [if_pos hc];exact hk _ e
  ·rw [decide_eq_false hc] at e;cases e
 ·cases e
theorem Jf3 {x:Value} {k:EK1} {K:Value→Prop} (hk: ∀b,k b=true→K b) (e:Xf5 x k=true):Jcy x K:=by
 unfold Xf5 at e;unfold Jcy;split at e
 ·rw [JJ] at e;exact hk _ e
 ·cases e
theorem JfP {x i:Value} {k:EK1} {K:Value→Prop} (hk: ∀b,k b=true→K b) (e:Zf8 x i k=true):QcJ x i K:=by
 unfold Zf8 at e;unfold QcJ
 split at e
 ·simp only [Bool.and_eq_true,decide_eq_true_eq] at e
  refine ⟨e.1,?_⟩
  have e:=e.2
  split at e
  ·rename_i hb;simp only [hb];rw [JJ] at e;exact hk _ e
  ·cases e
 ·cases e
end
end Go.Proofs.YtmchcjaomcdbmaaGreat.Abs
namespace Go.Proofs.YtmchcjaomcdbmaaGreat.Abs
open Go Go.RowKit
variable {P:Program}
def Jcw (P:Program) (t:TypeId) (K:Nat→Bool):Bool:=match P.info? t with|some i=>K i.size|none=>false
def XbL (P:Program) (t:TypeId) (K:Option Nat→Bool):Bool:=
 match P.underlying t with
 | some (.struct _)|some (.array _ _)=>Jcw P t fun k=>K (some k)
 | some _=>Jcw P t fun k=>match k==1 with|true=>K none|false=>false
 | none=>false
def Xa1 (P:Program) (t:TypeId) (K:List Value→Nat→Bool):Bool:=
 match P.info? t with
 | some i=>match i.zero with
  | some z=>match plain 3 z&&z.cells.toList.all isCell&&(z.cells.size==i.size) with
   | true=>K z.cells.toList i.bytes
   | false=>false
  | none=>false
 | none=>false
def Qbq (P:Program) (t:Env) (place:Nat→Option (Nat×TypeId)):List (Nat×Operand)→(List (Nat×Option Nat×Value)→Bool)→Bool
 | [],K=>K []
 |(i,x)::r,K=>match place i with
  | some (off,ty)=>XbL P ty fun a=>fV (ev t x) fun v=>Qbq P t place r fun l=>K ((off,a,v)::l)
  | none=>false
def XgE (P:Program) (ty:TypeId) (v:Value) (h:Tr) (n:Nat) (K:Nat→Tr→Nat→Bool):Bool:=
 XbL P ty fun a=>match a with
 | some _=>Jf2 v fun cs=>eNew cs .exact h n K
 | none=>isCell v&&eNew [v] .exact h n K
abbrev ECT:=FuncId→List Value→Tr→Nat→EC→Bool
def ZfS (C:ECT) (f:Value) (args:List Value) (h:Tr) (n:Nat) (K:EC):Bool:=
 match f with
 | .func (.func f) a b=>fL (a.toList++args++b.toList) fun as=>C f as h n K
 | _=>false
def Zep (t:Env):List Operand→(List Value→Bool)→Bool
 | [],k=>k []
 | x::l,k=>fV (ev t x) fun v=>Zep t l fun vs=>k (v::vs)
theorem Qc2 (t:Env): ∀(l:List Operand) (k:List Value→Bool),Zep t l k=k (l.map (ev t))
 | [],_=>rfl
 | x::l,k=>by simp only [Zep,ZcH];rw [Qc2 t l];rfl
def Zd0 (P:Program) (t:TypeId) (K:EK1):Bool:=
 match P.info? t with
 | some i=>match i.zero with
  | some z=>match plain 3 z with
   | true=>K z
   | false=>false
  | none=>false
 | none=>false
def Xdl (P:Program) (t:TypeId) (K:IntKind→TypeId→Bool):Bool:=
 match P.underlying t with
 | some (.map kt e)=>match P.underlying kt with
  | some (.int kk)=>K kk e
  | _=>false
 | _=>false
def JgF (x y:Value) (K:EK1):Bool:=match x,y with| .int k a,.int k' b=>decide (k=k')&&Zdg (if b<a then b else a) fun i=>K (.int k i)|_,_=>false
def QfY (P:Program) (b:Builtin) (vs:List Value) (tys:List TypeId) (K:EK1):Bool:=
 match b with
 | .cap=>match vs,tys with
  | x::_,ty::_=>match P.underlying ty with
   | some (.slice _)=>QgD x K
   | _=>false
  | _,_=>false
 | .min=>match vs,tys with
  | [x,y],[ty,_]=>match P.underlying ty with
   | some (.int _)=>JgF x y K
   | _=>false
  | _,_=>false
 | _=>false
def eop (P:Program) (C:ECT) (o:Oper) (t:Env) (h:Tr) (n:Nat) (K:EC):Bool:=
 match o.op.operands.toList.all QcT with
 | false=>false
 | true=>
  match o.op with
  | .move x| .assign x=>fV (ev t x) fun v=>K v h n
  | .pick c x y=>QfN (ev t c) fun b=>fV (bif b then ev t x else ev t y) fun v=>K v h n
  | .alloc e=>Xa1 P e fun z _=>eNew z .exact h n fun l h n=>K (ptr l 0) h n
  | .box e x=>XgE P e (ev t x) h n fun l h n=>K (ptr l 0) h n
  | .build ty parts=>Xa1 P ty fun z _=>match P.underlying ty with
   | some (.struct fs)=>match fs.toList.all (fun f=>(P.info? f.type).isSome) with|false=>false|true=>Qbq P t (fun i=>(fs[i]?).map fun f=>(f.offset,f.type)) parts.toList fun l=>ZdF z l fun cs=>fL cs fun cs=>K (.agg cs.toArray) h n
   | some (.array _ e)=>Jcw P e fun k=>Qbq P t (fun i=>some (i*k,e)) parts.toList fun l=>ZdF z l fun cs=>fL cs fun cs=>K (.agg cs.toArray) h n
   | _=>false
  | .buildSlice ty len parts=>match P.underlying ty with
   | some (.slice e)=>Xa1 P e fun z _=>match decide (len*z.length≤1000000)&&decide (len≤1000000) with
    | true=>Qbq P t (fun i=>some (i*z.length,e)) parts.toList fun l=>ZdF (reps len z) l fun cs=>eNew cs .exact h n fun l h n=>K (.slice (some ⟨l,0,none⟩) len len) h n
    | false=>false
   | _=>false
  | .load ty a=>XfV (ev t a) fun l o=>XbL P ty fun a=>match a with
   | some k=>Xgt h l o k fun cs=>K (.agg cs.toArray) h n
   | none=>eLd h l o fun v=>K v h n
  | .store ty a x=>XfV (ev t a) fun l o=>XbL P ty fun a=>match a with
   | some k=>Jf2 (ev t x) fun cs=>decide (cs.length=k)&&Zgr h l o cs fun h=>K undef h n
   | none=>fV (ev t x) fun v=>eSt h l o v fun h=>K undef h n
  | .nilCheck x=>ZgC (ev t x) fun v=>K v h n
  | .binOp op xt x y _=>QgB (ZeE P xt) op (ev t x) (ev t y) fun v=>K v h n
  | .unOp op _ x=>eUn op (ev t x) fun v=>K v h n
  | .convert src dst x=>match P.underlying src,P.underlying dst with
   | some _,some (.int k)=>ZfZ k (ev t x) fun v=>K v h n
   | _,_=>false
  | .makeFunc fn first captured=>Zep t first.toList fun a=>Zep t captured.toList fun b=>K (.func fn a.toArray b.toArray) h n
  | .makeSlice ty l c=>match P.underlying ty with
   | some (.slice e)=>Xa1 P e fun z bytes=>Zgh (ev t l) (ev t c) z bytes h n K
   | _=>false
  | .slice ty x lo hi mx=>match P.underlying ty,hi.isNone&&mx.isSome with
   | some (.slice e),false=>Jcw P e fun z=>Xe9 (ev t x) (lo.map (ev t)) (hi.map (ev t)) (mx.map (ev t)) z fun v=>K v h n
   | _,_=>false
  | .fieldAddr s x f=>match P.underlying s with
   | some (.struct fs)=>match fs[f]? with
    | some fd=>Jcw P fd.type fun k=>match k==0 with
     | true=>false
     | false=>JcT (ev t x) fd.offset fun v=>K v h n
    | none=>false
   | _=>false
  | .field xt x f=>match P.underlying xt with
   | some (.struct fs)=>match fs[f]? with
    | some fd=>XbL P fd.type fun a=>Jf2 (ev t x) fun cs=>Xfv cs fd.offset a fun v=>K v h n
    | none=>false
   | _=>false
  | .indexAddr ty x i=>match P.underlying ty with
   | some (.slice e)=>Jcw P e fun z=>Zb0 (ev t x) (ev t i) z fun v=>K v h n
   | some (.array len e)=>Jcw P e fun z=>JcF (ev t x) (ev t i) len z fun v=>K v h n
   | _=>false
  | .index xt x i=>match P.underlying xt with
   | some (.array len e)=>Jcw P e fun z=>XbL P e fun a=>XgG (ev t x) (ev t i) len z a fun v=>K v h n
   | some .string=>Zf8 (ev t x) (ev t i) fun v=>K v h n
   | _=>false
  | .extract x i=>Jdd (ev t x) i fun v=>K v h n
  | .call c=>match c.callee with
   | .value f=>Zep t c.args.toList fun as=>ZfS C (ev t f) as h n K
   | .invoke _ _=>false
   | .builtin b=>match b,c.args.toList,c.argTypes.toList with
    | .len,x::_,ty::_=>match P.underlying ty with
     | some (.slice _)=>XgC (ev t x) fun v=>K v h n
     | some (.array len _)=>K (.int .i64 len) h n
     | some .string=>Xf5 (ev t x) fun v=>K v h n
     | _=>false
    | .append,s::x::_,ty::tx::_=>match P.underlying ty,P.underlying tx with
     | some (.slice e),some (.slice _)=>Xa1 P e fun z bytes=>XdL (ev t s) (ev t x) z.length bytes h n K
     | some (.slice e),some (.int _)=>Xa1 P e fun z bytes=>Qc8 (ev t s) (ev t x) z bytes h n K
     | _,_=>false
    | .copy,d::s::_,ty::_=>match P.underlying ty with
     | some (.slice e)=>Jcw P e fun z=>Qf3 (ev t d) (ev t s) z h fun v h=>K v h n
     | _=>false
    | .clear,x::_,ty::_=>match P.underlying ty with
     | some (.slice e)=>Xa1 P e fun z _=>Xe0 (ev t x) z h fun v h=>K v h n
     | _=>false
    | b',xs,ts=>QfY P b' (xs.map (ev t)) ts fun v=>K v h n
  | .makeMap ty r=>match r with
   | none=>Je6 (.map []) h n fun l h n=>K (.map (some l)) h n
   | some x=>match P.underlying ty with
    | some (.map _ _)=>XfG (ev t x) fun _=>Je6 (.map []) h n fun l h n=>K (.map (some l)) h n
    | _=>false
  | .lookup xt x i ok=>Xdl P xt fun kk e=>Zd0 P e fun z=>Qfi kk (ev t x) (ev t i) z ok h fun v=>K v h n
  | .mapUpdate ty m k x| .insert ty m k x=>Xdl P ty fun kk _=>fV (ev t x) fun x=>Jfb kk (ev t m) (ev t k) x h fun h=>K undef h n
  | .mapEntry ty m k=>Xdl P ty fun kk e=>Zd0 P e fun z=>Jdt kk (ev t m) (ev t k) z h fun v h=>K v h n
  | .entryStore _ m s x=>fV (ev t x) fun x=>Jcu (ev t m) (ev t s) x h fun h=>K undef h n
  | .range xt x=>match P.underlying xt with
   | some (.map _ _)=>Zfc (ev t x) h n fun l h n=>K (ptr l 0) h n
   | _=>false
  | .next it false=>Jgp (ev t it) h fun v h=>K v h n
  | .entry it=>QfM (ev t it) h fun v=>K v h n
  | _=>false
section
variable {h:Tr} {n:Nat}
theorem QaO {t:TypeId} {k:Nat→Bool} {K:Nat→Prop} (hk: ∀b,k b=true→K b) (e:Jcw P t k=true):ZbT P t K:=by
 unfold Jcw at e;unfold ZbT
 revert e;generalize P.info? t=u;intro e
 split at e
 ·exact hk _ e
 ·cases e
theorem Ja0 {t:TypeId} {k:Option Nat→Bool} {K:Option Nat→Prop} (hk: ∀b,k b=true→K b) (e:XbL P t k=true):Zam P t K:=by
 unfold XbL at e;unfold Zam
 revert e;generalize P.underlying t=u;intro e
 split at e
 ·exact QaO (fun _=>hk _) e
 ·exact QaO (fun _=>hk _) e
 ·rename_i d h1 h2
  cases d<;>first|exact absurd rfl (h1 _)|exact absurd rfl (h2 _ _)|(refine QaO (fun k e=> ?_) e;revert e;generalize (k==1)=b;intro e;cases b;cases e;exact hk _ e)
 ·cases e
theorem XaC {t:TypeId} {k:List Value→Nat→Bool} {K:List Value→Nat→Prop} (hk: ∀z b,k z b=true→K z b) (e:Xa1 P t k=true):zeroOf P t K:=by
 unfold Xa1 at e;unfold zeroOf
 revert e;generalize P.info? t=u;intro e
 cases u with
 | none=>cases e
 | some i=>
  simp only at e ⊢
  revert e;generalize i.zero=u;intro e
  cases u with
  | none=>cases e
  | some z=>
   simp only at e ⊢
   revert e;generalize (plain 3 z&&z.cells.toList.all isCell&&(z.cells.size==i.size))=b;intro e
   cases b
   ·cases e
   ·exact hk _ _ e
theorem Jbp {t:Env} {pl:Nat→Option (Nat×TypeId)}: ∀{parts:List (Nat×Operand)} {k:List (Nat×Option Nat×Value)→Bool} {K:List (Nat×Option Nat×Value)→Prop},(∀l,k l=true→K l)→Qbq P t pl parts k=true→partsOf P t pl parts K
 | [],k,K,hk,e=>hk _ e
 |(i,x)::r,k,K,hk,e=>by
  simp only [Qbq,ZcH] at e
  simp only [partsOf]
  revert e;generalize pl i=u;intro e
  split at e
  ·exact Ja0 (fun a=>Jbp (fun l=>hk _)) e
  ·cases e
theorem Xgb {ty:TypeId} {v:Value} {k:Nat→Tr→Nat→Bool} {K:Nat→G→Nat→Prop} (hk: ∀l h n,k l h n=true→K l h.get n) (e:XgE P ty v h n k=true):Jgg P ty v h.get n K:=by
 refine Ja0 (fun a e=> ?_) e
 cases a with
 | none=>simp only [Bool.and_eq_true] at e;exact ⟨e.1,Zb6 hk e.2⟩
 | some z=>exact Zdo (fun _=>Zb6 hk) e
theorem JdZ {t:TypeId} {k:EK1} {K:Value→Prop} (hk: ∀z,k z=true→K z) (e:Zd0 P t k=true):JcY P t K:=by
 unfold Zd0 at e;unfold JcY
 revert e;generalize P.info? t=u;intro e
 cases u with
 | none=>cases e
 | some i=>
  simp only at e ⊢
  revert e;generalize i.zero=u;intro e
  cases u with
  | none=>cases e
  | some z=>
   simp only at e ⊢
   revert e;generalize plain 3 z=b;intro e
   cases b
   ·cases e
   ·exact hk _ e
theorem Zci {t:TypeId} {k:IntKind→TypeId→Bool} {K:IntKind→TypeId→Prop} (hk: ∀a b,k a b=true→K a b) (e:Xdl P t k=true):mapOf P t K:=by
 unfold Xdl at e;unfold mapOf
 split at e
 ·rename_i hu
  simp only [hu]
  split at e
  ·rename_i hk2;simp only [hk2];exact hk _ _ e
  ·cases e
 ·cases e
theorem Zf4 {b:Builtin} {vs:List Value} {tys:List TypeId} {k:EK1} {K:Value→Prop} (hk: ∀z,k z=true→K z) (e:QfY P b vs tys k=true):Jdj P b vs tys K:=by
 unfold QfY at e;unfold Jdj
 split at e
 ·split at e
  ·revert e;rename_i ty _;try simp only
   generalize P.underlying ty=u;intro e
   split at e
   ·exact Xgd hk e
   ·cases e
  ·cases e
 ·split at e
  ·revert e;try simp only
   rename_i ty _
   generalize P.underlying ty=u;intro e
   split at e
   ·unfold JgF at e;unfold Zgu
    split at e
    ·simp only [Bool.and_eq_true,decide_eq_true_eq,Jb4] at e;exact ⟨e.1,hk _ e.2⟩
    ·cases e
   ·cases e
  ·cases e
 ·cases e
def CTR (D:ECT) (C:CT):Prop:= ∀f args h n (k:EC) (K:Cont),(∀v h n,k v h n=true→K v h.get n)→D f args h n k=true→C f args h.get n K
theorem Qf8 {D:ECT} {C:CT} (hC:CTR D C) {f:Value} {args:List Value} {k:EC} {K:Cont} (hk: ∀v h n,k v h n=true→K v h.get n) (e:ZfS D f args h n k=true):Xbc C f args h.get n K:=by
 unfold ZfS at e;unfold Xbc
 split at e
 ·rw [ZcK] at e;exact hC _ _ _ _ _ _ hk e
 ·cases e
theorem Xgj {D:ECT} {C:CT} (hC:CTR D C) {o:Oper} {t:Env} {k:EC} {K:Cont} (hk: ∀v h n,k v h n=true→K v h.get n) (e:eop P D o t h n k=true):aop P C o t h.get n K:=by
 unfold eop at e;unfold aop
 revert e
 generalize o.op.operands.toList.all QcT=b
 generalize o.op=op
 intro e
 cases b
 ·cases e
 simp only at e ⊢
 cases op with
 | move x=>simp only [ZcH] at e;exact hk _ _ _ e
 | assign x=>simp only [ZcH] at e;exact hk _ _ _ e
 | pick c x y=>exact XfY (fun b e=>by rw [ZcH] at e;exact hk _ _ _ e) e
 | alloc ty=>exact XaC (fun z b e=>Zb6 (fun l h n e=>hk _ _ _ e) e) e
 | box ty x=>exact Xgb (fun l h n e=>hk _ _ _ e) e
 | build ty parts=>
  refine XaC (fun z b e=> ?_) e
  revert e;generalize P.underlying ty=u;intro e
  split at e
  ·rename_i fs
   revert e;generalize hb:fs.toList.all (fun f=>(P.info? f.type).isSome)=b;intro e
   cases b
   ·cases e
   ·simp only [hb]
    exact Jbp (fun l e=>Xcp (fun cs e=>by rw [ZcK] at e;exact hk _ _ _ e) e) e
  ·exact QaO (fun _ e=>Jbp (fun l e=>Xcp (fun cs e=>by rw [ZcK] at e;exact hk _ _ _ e) e) e) e
  ·cases e
 | buildSlice ty len parts=>
  simp only at e ⊢
  revert e;generalize P.underlying ty=u;intro e
  split at e
  ·refine XaC (fun z b e=> ?_) e
   revert e;generalize (decide (len*z.length≤1000000)&&decide (len≤1000000))=b;intro e
   cases b
   ·cases e
   ·exact Jbp (fun l e=>Xcp (fun cs e=>Zb6 (fun l h n e=>hk _ _ _ e) e) e) e
  ·cases e
 | load ty a=>
  refine Xdx (fun l o e=>Ja0 (fun a e=> ?_) e) e
  cases a with
  | none=>exact QdG (fun v e=>hk _ _ _ e) e
  | some z=>exact Ze4 (fun v e=>hk _ _ _ e) e
 | store ty a x=>
  refine Xdx (fun l o e=>Ja0 (fun a e=> ?_) e) e
  cases a with
  | none=>simp only [ZcH] at e;exact Qei (fun h e=>hk _ _ _ e) e
  | some z=>exact Zdo (fun cs e=>by simp only [Bool.and_eq_true,decide_eq_true_eq] at e;exact ⟨e.1,Xd8 (fun h e=>hk _ _ _ e) e.2⟩) e
 | nilCheck x=>exact Jgb (fun v e=>hk _ _ _ e) e
 | binOp op xt x y s=>exact Zgf (fun v e=>hk _ _ _ e) e
 | unOp op ty x=>exact Qgx (fun v e=>hk _ _ _ e) e
 | convert src dst x=>
  simp only at e ⊢
  revert e;generalize P.underlying src=u;generalize P.underlying dst=v;intro e
  split at e
  ·exact XfM (fun v e=>hk _ _ _ e) e
  ·cases e
 | makeFunc fn first captured=>
  simp only [Qc2] at e
  have e2: ∀a:Array Operand,(a.toList.map (ev t)).toArray=a.map (ev t):=by intro a;cases a;simp
  rw [e2,e2] at e
  exact hk _ _ _ e
 | makeSlice ty l c=>
  simp only at e ⊢
  revert e;generalize P.underlying ty=u;intro e
  split at e
  ·exact XaC (fun z b e=>QfZ hk e) e
  ·cases e
 | slice ty x lo hi mx=>
  simp only at e ⊢
  revert e;generalize P.underlying ty=u;generalize (hi.isNone&&mx.isSome)=b;intro e
  split at e
  ·exact QaO (fun z e=>Zfx (fun v e=>hk _ _ _ e) e) e
  ·cases e
 | fieldAddr s x f=>
  simp only at e ⊢
  revert e;generalize P.underlying s=u;intro e
  split at e
  ·rename_i fs
   revert e;try simp only
   generalize fs[f]? =w;intro e
   split at e
   ·refine QaO (fun z e=> ?_) e
    revert e;generalize (z==0)=b;intro e
    cases b
    ·exact Qdj (fun v e=>hk _ _ _ e) e
    ·cases e
   ·cases e
  ·cases e
 | field xt x f=>
  simp only at e ⊢
  revert e;generalize P.underlying xt=u;intro e
  split at e
  ·rename_i fs
   revert e;try simp only
   generalize fs[f]? =w;intro e
   split at e
   ·exact Ja0 (fun a e=>Zdo (fun cs e=>Qe9 (fun v e=>hk _ _ _ e) e) e) e
   ·cases e
  ·cases e
 | indexAddr ty x i=>
  simp only at e ⊢
  revert e;generalize P.underlying ty=u;intro e
  split at e
  ·exact QaO (fun z e=>Zdh (fun v e=>hk _ _ _ e) e) e
  ·exact QaO (fun z e=>JdT (fun v e=>hk _ _ _ e) e) e
  ·cases e
 | index xt x i=>
  simp only at e ⊢
  revert e;generalize P.underlying xt=u;intro e
  split at e
  ·exact QaO (fun z e=>Ja0 (fun a e=>Jgm (fun v e=>hk _ _ _ e) e) e) e
  ·exact JfP (fun v e=>hk _ _ _ e) e
  ·cases e
 | extract x i=>exact Xeo (fun v e=>hk _ _ _ e) e
 | call c=>
  simp only at e ⊢
  revert e;generalize c.callee=cl;intro e
  cases cl with
  | value f=>simp only [Qc2] at e;exact Qf8 hC hk e
  | invoke _ _=>cases e
  | builtin b=>
   simp only at e ⊢
   revert e;generalize c.args.toList=as;generalize c.argTypes.toList=ts;intro e
   split at e
   ·revert e;rename_i ty _;simp only;generalize P.underlying ty=u;intro e
    split at e
    ·exact Xgl (fun v e=>hk _ _ _ e) e
    ·exact hk _ _ _ e
    ·exact Jf3 (fun v e=>hk _ _ _ e) e
    ·cases e
   ·rename_i ty tx _
    revert e;try simp only
    generalize P.underlying ty=u;generalize P.underlying tx=w;intro e
    split at e
    ·exact XaC (fun z b e=>Je5 hk e) e
    ·exact XaC (fun z b e=>JeB hk e) e
    ·cases e
   ·rename_i ty _
    revert e;try simp only
    generalize P.underlying ty=u;intro e
    split at e
    ·exact QaO (fun z e=>QfT (fun v h e=>hk _ _ _ e) e) e
    ·cases e
   ·rename_i ty _
    revert e;try simp only
    generalize P.underlying ty=u;intro e
    split at e
    ·exact XaC (fun z b e=>Zfw (fun v h e=>hk _ _ _ e) e) e
    ·cases e
   ·rename_i n1 n2 n3 n4
    split
    ·exact (n1 _ _ _ _ rfl rfl rfl).elim
    ·exact (n2 _ _ _ _ _ _ rfl rfl rfl).elim
    ·exact (n3 _ _ _ _ _ rfl rfl rfl).elim
    ·exact (n4 _ _ _ _ rfl rfl rfl).elim
    ·exact Zf4 (fun v e=>hk _ _ _ e) e
 | makeMap ty r=>
  cases r with
  | none=>exact XdE (fun l h n e=>hk _ _ _ e) e
  | some x=>
   simp only at e ⊢
   revert e;generalize P.underlying ty=u;intro e
   split at e
   ·exact XcV (fun _ e=>XdE (fun l h n e=>hk _ _ _ e) e) e
   ·cases e
 | lookup xt x i ok=>exact Zci (fun _ _ e=>JdZ (fun z e=>XeR (fun v e=>hk _ _ _ e) e) e) e
 | mapUpdate ty m k x=>exact Zci (fun _ _ e=>by rw [ZcH] at e;exact Jds (fun h e=>hk _ _ _ e) e) e
 | insert ty m k x=>exact Zci (fun _ _ e=>by rw [ZcH] at e;exact Jds (fun h e=>hk _ _ _ e) e) e
 | mapEntry ty m k=>exact Zci (fun _ _ e=>JdZ (fun z e=>XdS (fun v h e=>hk _ _ _ e) e) e) e
 | entryStore ty m s x=>simp only [ZcH] at e;exact Zdb (fun h e=>hk _ _ _ e) e
 | range xt x=>
  simp only at e ⊢
  revert e;generalize P.underlying xt=u;intro e
  split at e
  ·exact Jfn (fun l h n e=>hk _ _ _ e) e
  ·cases e
 | next it b=>
  cases b with
  | true=>cases e
  | false=>exact QfQ (fun v h e=>hk _ _ _ e) e
 | entry it=>exact Qfs (fun v e=>hk _ _ _ e) e
 | _=>cases e
end
end Go.Proofs.YtmchcjaomcdbmaaGreat.Abs
namespace Go.Proofs.YtmchcjaomcdbmaaGreat.Abs
open Go Go.RowKit
variable {P:Program}
abbrev EE:=List Value→Tr→Nat→Bool
abbrev EQ:=Exit→List Value→Tr→Nat→Bool
def Qef (v:Value) (a b:Bool):Bool:=match v with| .bool true=>a| .bool false=>b|_=>false
def QeQ (gd:Bool) (t:List Value) (dst:Option Tmp) (v:Value) (K:List Value→Bool):Bool:=
 match gd with
 | true=>Qef v (Jf6 t dst (.bool true) K) (Jf6 t dst (.bool false) K)
 | false=>Jf6 t dst v K
def Zct (ops:Array Oper) (o:Oper) (t:Env) (a b:Bool):Bool:=
 match o.guard with
 | none=>a
 | some (j,want)=>match (ops[j]?).bind (·.dst) with
  | some d=>match t d with
   | .bool c=>bif c==want then a else b
   | .tuple _=>b
   | _=>false
  | none=>false
def Jgf (P:Program) (C:ECT) (N:Nat) (ops:Array Oper) (K:EE):List Oper→Nat→List Value→Tr→Nat→Bool
 | [],_,t,h,n=>K t h n
 | o::rest,i,t,h,n=>
  match Zcx N o.dst with
  | false=>false
  | true=>
   Zct ops o (XcK t)
    (eop P C o (XcK t) h n fun v h n=>QeQ (guarded rest i) t o.dst v fun t=>Jgf P C N ops K rest (i+1) t h n)
    (Jf6 t o.dst undef fun t=>Jgf P C N ops K rest (i+1) t h n)
def Qfq:Addr→Addr→Bool
 |⟨l,o,none⟩,⟨l',o',none⟩=>Nat.beq l l'&&Nat.beq o o'
 | _,_=>false
def Jdo:Value→Value→Bool
 | .string a,.string b=>Qaw a.data.toList b.data.toList
 | .int k i,.int k' i'=>decide (k=k')&&decide (i=i')
 | .bool b,.bool b'=>b==b'
 | .pointer none,.pointer none=>true
 | .pointer (some a),.pointer (some a')=>Qfq a a'
 | .slice none n c,.slice none n' c'=>Nat.beq n n'&&Nat.beq c c'
 | .slice (some a) n c,.slice (some a') n' c'=>Qfq a a'&&(Nat.beq n n'&&Nat.beq c c')
 | _,_=>false
def QdH:List Value→List Value→Bool
 | [],[]=>true
 | x::xs,y::ys=>Jdo x y&&QdH xs ys
 | _,_=>false
def JfS:BK→BK→Bool
 | .ro,.ro=>true
 | .exact,.exact=>true
 | .loose z,.loose z'=>Nat.beq z z'
 | _,_=>false
def Jf5:Option Blk→Option Blk→Bool
 | some (.cells cs k),some (.cells cs' k')=>JfS k k'&&QdH cs cs'
 | _,_=>false
theorem XeO {a b:Addr} (h:Qfq a b=true):a=b:=by
 unfold Qfq at h
 split at h
 ·simp only [JeC,Bool.and_eq_true,decide_eq_true_eq] at h;rw [h.1,h.2]
 ·cases h
theorem Jco {a b:Value} (h:Jdo a b=true):a=b:=by
 unfold Jdo at h
 split at h
 ·rename_i a b
  have:=ZbI h
  cases a;cases b
  simp only at this
  congr 2
  exact Array.ext' this
 ·simp only [Bool.and_eq_true,decide_eq_true_eq] at h;rw [h.1,h.2]
 ·rw [beq_iff_eq.1 h]
 ·rfl
 ·rw [XeO h]
 ·simp only [JeC,Bool.and_eq_true,decide_eq_true_eq] at h;rw [h.1,h.2]
 ·simp only [JeC,Bool.and_eq_true,decide_eq_true_eq] at h;rw [XeO h.1,h.2.1,h.2.2]
 ·cases h
theorem JdR: ∀{a b:List Value},QdH a b=true→a=b
 | [],[],_=>rfl
 | x::xs,y::ys,h=>by
  simp only [QdH,Bool.and_eq_true] at h
  rw [Jco h.1,JdR h.2]
 | [],_::_,h=>by cases h
 | _::_,[],h=>by cases h
theorem Qf7 {a b:Option Blk} (h:Jf5 a b=true):a=b:=by
 unfold Jf5 at h
 split at h
 ·rename_i cs k cs' k'
  simp only [Bool.and_eq_true] at h
  have:k=k':=by
   have h:=h.1
   unfold JfS at h
   split at h
   ·rfl
   ·rfl
   ·simp only [JeC,decide_eq_true_eq] at h;rw [h]
   ·cases h
  rw [this,JdR h.2]
 ·cases h
def Xgw (ops:Array Oper) (t:Env) (h h':Tr) (o:Oper):Bool:=
 match o.op with
 | .load _ a=>Zct ops o t (XfV (ev t a) fun l _=>Jf5 (h'.get l) (h.get l)) true
 | _=>true
def Jfr (ops:Array Oper) (t:Env) (h h':Tr):List Oper→Bool
 | []=>true
 | o::os=>Xgw ops t h h' o&&Jfr ops t h h' os
def Jgs (P:Program) (C:ECT) (N:Nat) (ops:Array Oper) (o:Oper) (guards:Bool) (t:List Value) (h:Tr) (n:Nat) (chk:Tr→Bool) (K:EE):Bool:=
 match Zcx N o.dst with
 | false=>false
 | true=>
  Zct ops o (XcK t)
   (eop P C o (XcK t) h n fun v h n=>chk h&&QeQ guards t o.dst v fun t=>K t h n)
   (Jf6 t o.dst undef fun t=>K t h n)
def Xgn (P:Program) (C:ECT) (N:Nat) (ops:Array Oper) (bef:List Nat) (K:List Bool→EE):List Nat→List Bool→EE
 | [],ld,t,h,n=>K ld t h n
 | i::is,ld,t,h,n=>
  match ops.toList[i]? with
  | none=>false
  | some o=>match !ld.getD i true&& !Jax o.op&&Zan ops.toList bef ld i with
   | false=>Xgn P C N ops bef K is ld t h n
   | true=>Jgs P C N ops o (guarded ops.toList i) t h n (fun _=>true) fun t h n=>Xgn P C N ops bef K is (ld.set i true) t h n
def QfC (F:Nat→Bool):List Nat→Bool
 | []=>true
 | [e]=>F e
 | e::es=>F e&&QfC F es
def Xfn (P:Program) (C:ECT) (N:Nat) (ops:Array Oper) (bef:List Nat) (K:EE):Nat→List Bool→EE
 | 0,_,_,_,_=>false
 | k+1,ld,t,h,n=>
  Xgn P C N ops bef (fun ld t h n=>
   match nexts ops.toList bef ld with
   | []=>K t h n
   | es=>QfC (fun e=>match ops.toList[e]? with
    | none=>false
    | some o=>Jgs P C N ops o (guarded ops.toList e) t h n (fun h'=>Jfr ops (XcK t) h h' (Zey ops.toList bef ld e)) fun t h n=>Xfn P C N ops bef K k (ld.set e true) t h n) es)
   (List.range ops.size) ld t h n
def ZdD (P:Program) (C:ECT) (N:Nat) (ops:Array Oper) (K:EE) (t:List Value) (h:Tr) (n:Nat):Bool:=
 match Qdn ops.toList (JC ops.toList)&&ZcY N ops with
 | false=>false
 | true=>Xfn P C N ops (JC ops.toList) K (ops.size+1) (List.replicate ops.size false) t h n
def Qd0 (K:EE) (Q:EQ):EQ
 | .normal,t,h,n=>K t h n
 | e,t,h,n=>Q e t h n
def XdQ (id:Nat) (Q:EQ):EQ
 | .exit i,t,h,n=>match i==id with|true=>Q .normal t h n|false=>Q (.exit i) t h n
 | e,t,h,n=>Q e t h n
def JfU (F:EE→EE):Nat→EE
 | 0=>fun _ _ _=>false
 | k+1=>fun t h n=>F (JfU F k) t h n
def Qcv (P:Program) (fuel:Nat) (C:ECT) (N:Nat):Code→EQ→EE
 | .skip,Q=>Q .normal
 | .region _ ops false,Q=>fun t h n=>match ZcY N ops with
  | false=>false
  | true=>Jgf P C N ops (Q .normal) ops.toList 0 t h n
 | .region _ ops true,Q=>ZdD P C N ops (Q .normal)
 | .seq a b,Q=>Qcv P fuel C N a (Qd0 (Qcv P fuel C N b Q) Q)
 | .cond c a b,Q=>fun t h n=>match QcT c with
  | false=>false
  | true=>Qef (ev (XcK t) c) (Qcv P fuel C N a Q t h n) (Qcv P fuel C N b Q t h n)
 | .block id c,Q=>Qcv P fuel C N c (XdQ id Q)
 | .loop c,Q=>JfU (fun I=>Qcv P fuel C N c (Qd0 I Q)) fuel
 | .exit id,Q=>Q (.exit id)
 | .ret,Q=>Q .ret
 | _,_=>fun _ _ _=>false
def Jf9 (P:Program) (t:Env) (h:Tr):List ResultVar→(List Value→Bool)→Bool
 | [],K=>K []
 | .tmp i::r,K=>fV (t i) fun v=>Jf9 P t h r fun vs=>K (v::vs)
 | .cell a ty::r,K=>XfV (t a) fun l o=>XbL P ty fun ag=>match ag with
  | some k=>Xgt h l o k fun cs=>Jf9 P t h r fun vs=>K (.agg cs.toArray::vs)
  | none=>eLd h l o fun v=>Jf9 P t h r fun vs=>K (v::vs)
def Qge (P:Program) (rs:List ResultVar) (K:EC):EQ
 | .normal,t,h,n| .ret,t,h,n=>Jf9 P (XcK t) h rs fun vs=>K (tup vs) h n
 | _,_,_,_=>false
def Xf3 (P:Program) (fuel:Nat) (C:ECT) (f:FuncId) (args:List Value) (h:Tr) (n:Nat) (K:EC):Bool:=
 match P.funcs[f]? with
 | some fn=>match fn.body,fn.name== "runtime.NumGoroutine",decide (args.length≤fn.ntmps) with
  | some c,false,true=>fL (args++List.replicate (fn.ntmps-args.length) undef) fun t=>Qcv P fuel C fn.ntmps c (Qge P fn.results.toList K) t h n
  | _,_,_=>false
 | none=>false
abbrev EH:=FuncId→Option (ECT→List Value→Tr→Nat→EC→Bool)
def ZaO (P:Program) (H:EH) (fuel:Nat):Nat→ECT
 | 0=>fun _ _ _ _ _=>false
 | k+1=>fun f args h n K=>match H f with
  | some e=>e (ZaO P H fuel k) args h n K
  | none=>Xf3 P fuel (ZaO P H fuel k) f args h n K
section
variable {h:Tr} {n:Nat}
theorem Jed {v:Value} {a b:Bool} {A B:Prop} (ha:a=true→A) (hb:b=true→B) (e:Qef v a b=true):Qa v A B:=by
 unfold Qef at e;unfold Qa;split at e<;>first|exact ha e|exact hb e|cases e
theorem Jdi {t:List Value} {d:Option Tmp} {v:Value} {k:List Value→Bool} {K:Env→Prop} (hk: ∀t',k t'=true→K (XcK t')) (e:Jf6 t d v k=true):K (put (XcK t) d v):=by
 obtain ⟨t',h1,_,h2⟩:=Xgo e
 rw [←h1];exact hk _ h2
theorem Xd0 {gd:Bool} {t:List Value} {d:Option Tmp} {v:Value} {k:List Value→Bool} {K:Env→Prop} (hk: ∀t',k t'=true→K (XcK t')) (e:QeQ gd t d v k=true):Zca gd (XcK t) d v K:=by
 cases gd with
 | true=>exact Jed (Jdi hk) (Jdi hk) e
 | false=>exact Jdi hk e
theorem QcC {ops:Array Oper} {o:Oper} {t:Env} {a b:Bool} {A B:Prop} (ha:a=true→A) (hb:b=true→B) (e:Zct ops o t a b=true):Qy ops o t A B:=by
 unfold Zct at e;unfold Qy
 revert e;generalize o.guard=gd;intro e
 split at e
 ·exact ha e
 ·rename_i j want
  revert e;try simp only
  generalize (ops[j]?).bind (·.dst)=u;intro e
  split at e
  ·rename_i d
   revert e;try simp only
   generalize t d=v;intro e
   split at e
   ·rename_i c
    revert e;try simp only
    generalize (c==want)=b;intro e
    cases b
    ·exact hb e
    ·exact ha e
   ·exact hb e
   ·cases e
  ·cases e
def KR (k:EE) (K:Zl):Prop:= ∀t h n,k t h n=true→K (XcK t) h.get n
theorem JeM {D:ECT} {C:CT} (hC:CTR D C) {N:Nat} {ops:Array Oper} {k:EE} {K:Zl} (hk:KR k K): ∀(l:List Oper) (i:Nat) (t:List Value) (h:Tr) (n:Nat),Jgf P D N ops k l i t h n=true→Xd6 P C N ops K l i (XcK t) h.get n
 | [],i,t,h,n,e=>hk _ _ _ e
 | o::rest,i,t,h,n,e=>by
  simp only [Jgf] at e
  simp only [Xd6]
  revert e;generalize Zcx N o.dst=b;intro e
  cases b
  ·cases e
  ·exact QcC (Xgj hC fun v h n=>Xd0 (K:=fun t=>Xd6 P C N ops K rest (i+1) t h.get n) fun t'=>JeM hC hk rest (i+1) t' h n)
    (Jdi (K:=fun t=>Xd6 P C N ops K rest (i+1) t h.get n) fun t'=>JeM hC hk rest (i+1) t' h n) e
theorem Qgd {ops:Array Oper} {t:Env} {h h':Tr} {o:Oper} (e:Xgw ops t h h' o=true):Zgc ops t h.get h'.get o:=by
 unfold Xgw at e;unfold Zgc
 revert e;generalize o.op=op;intro e
 cases op with
 | load ty a=>exact QcC (Xdx fun l o e=>Qf7 e) (fun _=>trivial) e
 | _=>trivial
theorem QeY {ops:Array Oper} {t:Env} {h h':Tr} {p:Prop} (hp:p): ∀{l:List Oper},Jfr ops t h h' l=true→Xdw ops t h.get h'.get l p
 | [],_=>hp
 | o::os,e=>by
  simp only [Jfr,Bool.and_eq_true] at e
  exact ⟨Qgd e.1,QeY hp e.2⟩
theorem ZfJ {D:ECT} {C:CT} (hC:CTR D C) {N:Nat} {ops:Array Oper} {o:Oper} {gd:Bool} {t:List Value} {after:G→Prop→Prop} {chk:Tr→Bool} (ha: ∀h p,chk h=true→p→after h.get p) {k:EE} {K:Zl} (hk:KR k K) (e:Jgs P D N ops o gd t h n chk k=true):ZeL P C N ops o gd (XcK t) h.get n after K:=by
 unfold Jgs at e;unfold ZeL
 revert e;generalize Zcx N o.dst=b;intro e
 cases b
 ·cases e
 ·exact QcC (Xgj hC fun v h n e=>by
     simp only [Bool.and_eq_true] at e
     exact ha _ _ e.1 (Xd0 (K:=fun t=>K t h.get n) (fun t'=>hk t' h n) e.2))
    (Jdi (K:=fun t=>K t h.get n) fun t'=>hk t' h n) e
theorem Xfg {D:ECT} {C:CT} (hC:CTR D C) {N:Nat} {ops:Array Oper} {bef:List Nat} {k:List Bool→EE} {K:List Bool→Zl} (hk: ∀ld,KR (k ld) (K ld)): ∀(is:List Nat) (ld:List Bool),KR (Xgn P D N ops bef k is ld) (QeD P C N ops bef K is ld)
 | [],ld=>hk ld
 | i::is,ld=>fun t h n e=>by
  simp only [Xgn] at e
  simp only [QeD]
  revert e;generalize ops.toList[i]? =u;intro e
  cases u with
  | none=>cases e
  | some o=>
   revert e;try simp only
   generalize (!ld.getD i true&& !Jax o.op&&Zan ops.toList bef ld i)=b;intro e
   cases b
   ·exact Xfg hC hk is ld t h n e
   ·exact ZfJ hC (fun _ _ _ p=>p) (Xfg hC hk is _) e
theorem ZeP {f:Nat→Bool} {F:Nat→Prop} (hf: ∀i,f i=true→F i): ∀(l:List Nat),QfC f l=true→JdF F l
 | [],_=>trivial
 | [e],h=>hf _ h
 | e::e2::es,h=>by
  simp only [QfC,Bool.and_eq_true] at h
  exact ⟨hf _ h.1,ZeP hf (e2::es) h.2⟩
theorem Qfd {D:ECT} {C:CT} (hC:CTR D C) {N:Nat} {ops:Array Oper} {bef:List Nat} {k:EE} {K:Zl} (hk:KR k K): ∀(d:Nat) (ld:List Bool),KR (Xfn P D N ops bef k d ld) (Xcf P C N ops bef K d ld)
 | 0,ld=>fun _ _ _ e=>by cases e
 | d+1,ld=>fun t h n e=>by
  simp only [Xfn] at e
  simp only [Xcf]
  refine Xfg hC (fun ld t h n e=> ?_) _ _ t h n e
  revert e;generalize nexts ops.toList bef ld=u;intro e
  cases u with
  | nil=>exact hk _ _ _ e
  | cons i0 is=>
   refine ZeP (fun i e=> ?_) (i0::is) e
   revert e;generalize ops.toList[i]? =u;intro e
   cases u with
   | none=>cases e
   | some o=>
    exact ZfJ hC (fun h' p hc hp=>QeY hp hc) (Qfd hC hk d _) e
theorem QeV {D:ECT} {C:CT} (hC:CTR D C) {N:Nat} {ops:Array Oper} {k:EE} {K:Zl} (hk:KR k K):KR (ZdD P D N ops k) (Qbi P C N ops K):=fun t h n e=>by
 unfold ZdD at e;unfold Qbi
 revert e;generalize (Qdn ops.toList (JC ops.toList)&&ZcY N ops)=b;intro e
 cases b
 ·cases e
 ·exact Qfd hC hk _ _ t h n e
def QR (q:EQ) (Q:XaI):Prop:= ∀x,KR (q x) (Q x)
theorem Zec {k:EE} {K:Zl} {q:EQ} {Q:XaI} (hk:KR k K) (hq:QR q Q):QR (Qd0 k q) (XcJ K Q):=fun x=>by
 cases x<;>first|exact hk|exact hq _
theorem ZeZ {q:EQ} {Q:XaI} {id:Nat} (hq:QR q Q):QR (XdQ id q) (Qb5 id Q):=fun x=>by
 cases x with
 | exit i=>intro t h n e;simp only [XdQ] at e;simp only [Qb5];revert e;generalize (i==id)=b;intro e;cases b<;>exact hq _ t h n e
 | _=>exact hq _
theorem Xf4 {fuel:Nat} {D:ECT} {C:CT} (hC:CTR D C) {N:Nat}: ∀(c:Code) {q:EQ} {Q:XaI},QR q Q→KR (Qcv P fuel D N c q) (X8 P C N c Q):=by
 intro c
 induction c with
 | skip=>intro q Q hq;exact hq _
 | exit id=>intro q Q hq;exact hq _
 | ret=>intro q Q hq;exact hq _
 | region id ops draw=>
  intro q Q hq
  cases draw with
  | false=>
   intro t h n e
   simp only [Qcv] at e
   simp only [X8]
   revert e;generalize ZcY N ops=b;intro e
   cases b
   ·cases e
   ·exact JeM hC (hq _) _ _ t h n e
  | true=>exact QeV hC (hq _)
 | seq a b iha ihb=>intro q Q hq;exact iha (Zec (ihb hq) hq)
 | cond c a b iha ihb=>
  intro q Q hq t h n e
  simp only [Qcv] at e
  simp only [X8]
  revert e;generalize QcT c=b;intro e
  cases b
  ·cases e
  ·exact Jed (iha hq t h n) (ihb hq t h n) e
 | block id c ih=>intro q Q hq;exact ih (ZeZ hq)
 | loop c ih=>
  intro q Q hq t h n e
  intro I hI
  have: ∀d,KR (JfU (fun I=>Qcv P fuel D N c (Qd0 I q)) d) I:=by
   intro d
   induction d with
   | zero=>intro t h n e;cases e
   | succ d ihd=>intro t h n e;exact hI _ _ _ (ih (Zec ihd hq) t h n e)
  exact this fuel t h n e
 | _=>intro q Q hq t h n e;cases e
theorem QdB {t:Env}: ∀{rs:List ResultVar} {k:List Value→Bool} {K:List Value→Prop},(∀l,k l=true→K l)→Jf9 P t h rs k=true→XeD P t h.get rs K
 | [],k,K,hk,e=>hk _ e
 | .tmp i::r,k,K,hk,e=>by
  simp only [Jf9,ZcH] at e
  exact QdB (rs:=r) (k:=fun vs=>k (t i::vs)) (K:=fun vs=>K (t i::vs)) (fun _=>hk _) e
 | .cell a ty::r,k,K,hk,e=>by
  refine Xdx (fun l o e=>Ja0 (fun ag e=> ?_) e) e
  cases ag with
  | none=>exact QdG (fun _ e=>QdB (fun _=>hk _) e) e
  | some z=>exact Ze4 (fun _ e=>QdB (fun _=>hk _) e) e
theorem JfT {rs:List ResultVar} {k:EC} {K:Cont} (hk: ∀v h n,k v h n=true→K v h.get n):QR (Qge P rs k) (Zga P rs K):=fun x t h n e=>by
 cases x with
 | normal=>exact QdB (fun vs e=>⟨_,Sub.refl _,hk _ _ _ e⟩) e
 | ret=>exact QdB (fun vs e=>⟨_,Sub.refl _,hk _ _ _ e⟩) e
 | _=>cases e
theorem XeZ (args:List Value) (m:Nat):XcK (args++List.replicate m undef)=Qq args:=by
 funext i
 simp only [XcK,Qq,List.getD_eq_getElem?_getD]
 by_cases hi:i<args.length
 ·rw [List.getElem?_append_left hi]
 ·rw [List.getElem?_append_right (by omega),List.getElem?_eq_none (l:=args) (by omega)]
  simp only [List.getElem?_replicate]
  split<;>rfl
theorem JfY {fuel:Nat} {D:ECT} {C:CT} (hC:CTR D C):CTR (Xf3 P fuel D) (Zg P C):=fun f args h n k K hk e=>by
 unfold Xf3 at e;unfold Zg
 revert e;generalize P.funcs[f]? =u;intro e
 cases u with
 | none=>cases e
 | some fn=>
  revert e;try simp only
  generalize hb:fn.body=b;generalize (fn.name== "runtime.NumGoroutine")=c;generalize decide (args.length≤fn.ntmps)=d;intro e
  split at e
  ·rw [ZcK] at e
   have:=Xf4 hC _ (JfT hk) _ _ _ e
   rw [XeZ] at this
   exact this
  ·cases e
def HOk (H:EH) (C:CT):Prop:= ∀f e,H f=some e→ ∀D:ECT,CTR D C→ ∀args h n (k:EC) (K:Cont),(∀v h n,k v h n=true→K v h.get n)→e D args h n k=true→C f args h.get n K
theorem XbP {fuel:Nat} {H:EH} {C:CT} (hB: ∀f args g n K,Zg P C f args g n K→C f args g n K) (hH:HOk H C): ∀d,CTR (ZaO P H fuel d) C
 | 0=>fun _ _ _ _ _ _ _ e=>by cases e
 | d+1=>fun f args h n k K hk e=>by
  simp only [ZaO] at e
  cases hf:H f with
  | none=>rw [hf] at e;exact hB _ _ _ _ _ (JfY (XbP hB hH d) f args h n k K hk e)
  | some x=>rw [hf] at e;exact hH f x hf _ (XbP hB hH d) args h n k K hk e
end
end Go.Proofs.YtmchcjaomcdbmaaGreat.Abs
namespace Go.Proofs.YtmchcjaomcdbmaaGreat.Abs
open Go Go.RowKit
variable {P:Program}
def Jee:Value→Value→Bool
 | .agg xs,.agg ys=>QdH xs.toList ys.toList
 | a,b=>Jdo a b
theorem Xd7 {a b:Value} (h:Jee a b=true):a=b:=by
 unfold Jee at h
 split at h
 ·rename_i xs ys
  have:=JdR h
  cases xs;cases ys
  simp only at this
  rw [this]
 ·exact Jco h
def Jd5:List Value→List Value→Bool
 | [],[]=>true
 | x::xs,y::ys=>Jee x y&&Jd5 xs ys
 | _,_=>false
theorem XdZ: ∀{a b:List Value},Jd5 a b=true→a=b
 | [],[],_=>rfl
 | x::xs,y::ys,h=>by
  simp only [Jd5,Bool.and_eq_true] at h
  rw [Xd7 h.1,XdZ h.2]
 | [],_::_,h=>by cases h
 | _::_,[],h=>by cases h
def Zc8:Value→Value→Bool
 | .tuple xs,.tuple ys=>Jd5 xs.toList ys.toList
 | a,b=>Jee a b
theorem XeJ {a b:Value} (h:Zc8 a b=true):a=b:=by
 unfold Zc8 at h
 split at h
 ·rename_i xs ys
  have:=XdZ h
  cases xs;cases ys
  simp only at this
  rw [this]
 ·exact Xd7 h
def XEH (P:Program) (H:EH) (X:XT):XT:=fun C f args g n K=>X C f args g n K∨
 ∃(v:Value) (fuel depth:Nat),plain 3 v=true∧args.all (plain 3)=true∧ZaO P H fuel depth f args .nil 0 (fun v' _ _=>Zc8 v' v)=true∧ ∀n',K v g n'
theorem XfD {H:EH} {X:XT} (hX:Qdc X):Qdc (XEH P H X):=by
 rintro C C' hC f args g n K K' hk (h|⟨v,fuel,depth,h1,h2,h3,h4⟩)
 ·exact .inl (hX _ _ hC _ _ _ _ _ _ hk h)
 ·exact .inr ⟨v,fuel,depth,h1,h2,h3,fun n'=>hk _ _ _ (h4 n')⟩
theorem Zcq {μ μ':Mu}: ∀{xs ys:List Value},VRs μ xs ys→xs.all (plain 3)=true→VRs μ' xs ys
 | _,_,.nil,_=> .nil
 | _,_,.cons h hs,hp=>by
  simp only [List.all_cons,Bool.and_eq_true] at hp
  have:=ZbO h 3 hp.1
  subst this
  exact .cons (Qav μ' 3 _ hp.1) (Zcq hs hp.2)
theorem Jfg (hD: ∀B,Qaq P B) {H:EH} {X:XT} (hX:Jcl P X) (hH:HOk H (XaU P)):Jcl P (XEH P H X):=by
 rintro f args g n K (h|⟨v,fuel,depth,h1,h2,h3,h4⟩) μ w B cargs hs hr
 ·exact hX _ _ _ _ _ h μ w B cargs hs hr
 have hx:XaU P f args (Tr.nil).get 0 (fun v' _ _=>v'=v):=XbP (XbB hD) hH depth f args .nil 0 _ _ (fun v' h n e=>XeJ e) h3
 have hc:=hx (fun _=>none) w w.heap.size cargs
  ⟨fun _ _ h=>by simp at h,fun _ _=>rfl,fun _ _ _ _ h=>by simp at h,fun _ _ _ _ _ _ _ _ _ _ h=>by simp at h,Nat.le_refl _⟩ (Zcq hr h2)
 have fin: ∀v' w',Fin w.heap.size w (fun _=>none) (fun v' _ _=>v'=v) v' w'→Fin B w μ K v' w':=by
  rintro v' w' ⟨v1,g1,n1,μ1,rfl,hv,_,_,hb⟩
  have hv:=ZbO hv 3 h1
  subst hv
  refine ⟨_,g,n,μ,h4 n,Qav μ 3 _ h1,?_,Ext.refl _,?_⟩
  ·exact ⟨hs.dom,hs.gdom,fun l b m hg hm=>(hs.live l b m hg hm).mono (Ext.refl μ) (hb.block _ (hs.live l b m hg hm).lt),hs.inj,Nat.le_trans hs.base hb.size⟩
  ·exact hb.mono hs.base
 revert hc
 generalize (callFunc f cargs).run P w=r
 intro hc
 cases r with
 | ok x w'=>
  cases x<;>simp only [Upon] at hc ⊢ <;>first
   | exact fin _ _ hc
   | exact hc.elim
   | exact Calls.mono hc fun e w'' he=>by cases e<;>simp only [Xfz] at he ⊢ <;>exact fin _ _ he
   | exact Rows.mono hc fun v w'' he=>fin _ _ he
   | skip
 | halt x w'=>exact hc.elim
theorem Jbl {f:FuncId} {fn:Func} {args:Array Value} {w:World} (hf:P.funcs[f]? =some fn) (hb:fn.body.isSome=true) (hn:(fn.name== "runtime.NumGoroutine")=false):(callFunc f args).run P w= .ok (.enter f args) w:=by
 obtain ⟨c,hb⟩:=Option.isSome_iff_exists.1 hb
 simp [callFunc,hf,hb]
 simp at hn
 simp [hn]
end Go.Proofs.YtmchcjaomcdbmaaGreat.Abs
namespace Go.Proofs.YtmchcjaomcdbmaaGreat.Abs
open Go Go.RowKit
variable {P:Program}
inductive XK where
 | ld (k:IntKind)
 | add (k:IntKind)
 | slow (Fs:List FuncId)
 | tab (t:List Value→Option Value)
 | look (r:List Value→G→Option (Value×Option (Nat×Nat×Value)))
abbrev ZeD:=FuncId→Option XK
def Qb6 (k:IntKind) (args:List Value) (g:G) (n:Nat) (K:Cont):Prop:=
 match args with
 | [.pointer (some ⟨l,o,none⟩)]=>kLd g l o fun v=>match v with
  | .int k' x=>k'=k∧K (.int k' x) g n
  | _=>False
 | _=>False
def Xc8 (k:IntKind) (args:List Value) (g:G) (n:Nat) (K:Cont):Prop:=
 match args with
 | [.pointer (some ⟨l,o,none⟩),.int k2 y]=>k2=k∧kLd g l o fun v=>match v with
  | .int k' x=>k'=k∧kSt g l o (.int k (k.wrap (x+y))) fun g=>K (.int k (k.wrap (x+y))) g n
  | _=>False
 | _=>False
def ZdA (C:CT) (Fs:List FuncId) (args:List Value) (g:G) (n:Nat) (K:Cont):Prop:=
 match args with
 | [.pointer (some ⟨l,o,none⟩),.func (.func F) us vs]=>F∈Fs∧kLd g l o (fun v=>v= .int .u32 0)∧kLd g l (o+1) (fun v=>v= .int .i32 0)∧kSt g l (o+1) (.int .i32 1) fun g1=>
   C F (us.toList++vs.toList) g1 n fun _ g2 n2=>kLd g2 l (o+1) (fun v=>v= .int .i32 1)∧kSt g2 l o (.int .u32 1) fun g3=>kSt g3 l (o+1) (.int .i32 0) fun g4=>K (.tuple #[]) g4 n2
 | _=>False
def Zf3 (t:List Value→Option Value) (args:List Value) (g:G) (n:Nat) (K:Cont):Prop:=
 match t args with
 | some v=>K v g n
 | none=>False
def Xcs (r:List Value→G→Option (Value×Option (Nat×Nat×Value))) (args:List Value) (g:G) (n:Nat) (K:Cont):Prop:=
 match r args g with
 | some (v,none)=>K v g n
 | some (v,some (l,o,x))=>kSt g l o x fun g=>K v g n
 | none=>False
def XF (T:ZeD):XT:=fun C f args g n K=>
 match T f with
 | some (.ld k)=>Qb6 k args g n K
 | some (.add k)=>Xc8 k args g n K
 | some (.slow Fs)=>ZdA C Fs args g n K
 | some (.tab t)=>Zf3 t args g n K
 | some (.look r)=>Xcs r args g n K
 | none=>False
def QfI (P:Program) (slow F:FuncId):Prop:= ∀(b off:Nat) (us vs:Array Value) (w:World) (R:Ending→World→Prop),
 w.cell? ⟨b,off,none⟩=some (.int .u32 0)→w.cell? ⟨b,off+1,none⟩=some (.int .i32 0)→w.frozen? ⟨b,off+1,none⟩=false→
 (Calls P F (us++ #[]++vs) (w.setCell ⟨b,off+1,none⟩ (.int .i32 1)) fun e w2=>(∃v,e= .returned v)∧(∃x,w2.cell? ⟨b,off,none⟩=some x)∧w2.frozen? ⟨b,off,none⟩=false∧
   w2.cell? ⟨b,off+1,none⟩=some (.int .i32 1)∧w2.frozen? ⟨b,off+1,none⟩=false∧R (.returned (.tuple #[])) ((w2.drew.setCell ⟨b,off,none⟩ (.int .u32 1)).setCell ⟨b,off+1,none⟩ (.int .i32 0)))→
 Calls P slow #[.pointer (some ⟨b,off,none⟩),.func (.func F) us vs] w R
structure Xdq (P:Program) (f:FuncId):Prop where
 ex: ∃fn,P.funcs[f]? =some fn∧fn.body.isSome=true∧(fn.name== "runtime.NumGoroutine")=false
structure ZdC (P:Program) (f:FuncId) (e:Array Value→Sem Value):Prop where
 ex: ∃fn,P.funcs[f]? =some fn∧(fn.name== "runtime.NumGoroutine")=false∧fn.body.isNone=true∧Extern.findNext fn=none∧Extern.find fn=some e
def JgJ (P:Program) (f:FuncId):XK→Prop
 | .ld k=>ZdC P f (Extern.Atomic.loadT (.int k))
 | .add k=>ZdC P f (Extern.Atomic.update (Op.intArith .add) k true)
 | .slow Fs=>Xdq P f∧ ∀F∈Fs,Xdq P F∧QfI P f F
 | .tab t=> ∀args v g n K,t args=some v→K v g n→XaU P f args g n K
 | .look r=> ∀args g n K,Xcs r args g n K→XaU P f args g n K
def Zgk (P:Program) (T:ZeD):Prop:= ∀f k,T f=some k→JgJ P f k
theorem XdK {k:IntKind} {args:List Value} {g:G} {n:Nat} {K K':Cont} (hk: ∀v g n,K v g n→K' v g n) (h:Qb6 k args g n K):Qb6 k args g n K':=by
 unfold Qb6 at*
 split at h
 ·refine Jci (fun v h=> ?_) h
  split at h
  ·exact ⟨h.1,hk _ _ _ h.2⟩
  ·exact h.elim
 ·exact h.elim
theorem Jeh {k:IntKind} {args:List Value} {g:G} {n:Nat} {K K':Cont} (hk: ∀v g n,K v g n→K' v g n) (h:Xc8 k args g n K):Xc8 k args g n K':=by
 unfold Xc8 at*
 split at h
 ·refine ⟨h.1,Jci (fun v h=> ?_) h.2⟩
  split at h
  ·exact ⟨h.1,Qbp (fun _=>hk _ _ _) h.2⟩
  ·exact h.elim
 ·exact h.elim
theorem Xeg {C C':CT} (hC:CLe C C') {Fs:List FuncId} {args:List Value} {g:G} {n:Nat} {K K':Cont} (hk: ∀v g n,K v g n→K' v g n) (h:ZdA C Fs args g n K):ZdA C' Fs args g n K':=by
 unfold ZdA at*
 split at h
 ·obtain ⟨h1,h2,h3,h4⟩:=h
  exact ⟨h1,h2,h3,Qbp (fun g h=>hC _ _ _ _ _ _ (fun _ g2 n2 h=>⟨h.1,Qbp (fun g3 h=>Qbp (fun g4 h=>hk _ _ _ h) h) h.2⟩) h) h4⟩
 ·exact h.elim
theorem Qe7 {t:List Value→Option Value} {args:List Value} {g:G} {n:Nat} {K K':Cont} (hk: ∀v g n,K v g n→K' v g n) (h:Zf3 t args g n K):Zf3 t args g n K':=by
 unfold Zf3 at*
 split at h
 ·exact hk _ _ _ h
 ·exact h.elim
theorem Jem {r:List Value→G→Option (Value×Option (Nat×Nat×Value))} {args:List Value} {g:G} {n:Nat} {K K':Cont} (hk: ∀v g n,K v g n→K' v g n) (h:Xcs r args g n K):Xcs r args g n K':=by
 unfold Xcs at*
 split at h
 ·exact hk _ _ _ h
 ·exact Qbp (fun g h=>hk _ _ _ h) h
 ·exact h.elim
theorem ZfN (T:ZeD):Qdc (XF T):=by
 intro C C' hC f args g n K K' hk h
 unfold XF at*
 split at h
 ·exact XdK hk h
 ·exact Jeh hk h
 ·exact Xeg hC hk h
 ·exact Qe7 hk h
 ·exact Jem hk h
 ·exact h.elim
section
variable {g:G} {n:Nat} {K:Cont} {f:FuncId} {args:List Value}
theorem ZgI {μ:Mu} {x:Value} {c:Array Value} (h:VRs μ [x] c.toList): ∃x',c= #[x']∧VR μ x x':=by
 generalize hl:c.toList=l at h
 cases h with
 | cons h1 h2=>
  cases h2
  exact ⟨_,by apply Array.ext';rw [hl],h1⟩
theorem Jgr {μ:Mu} {x y:Value} {c:Array Value} (h:VRs μ [x,y] c.toList): ∃x' y',c= #[x',y']∧VR μ x x'∧VR μ y y':=by
 generalize hl:c.toList=l at h
 cases h with
 | cons h1 h2=>
  cases h2 with
  | cons h3 h4=>
   cases h4
   exact ⟨_,_,by apply Array.ext';rw [hl],h1,h3⟩
theorem JcE {l o:Nat} {J:Value→Prop} (h:kLd g l o J): ∃cs k v,g l=some (.cells cs k)∧cs[o]? =some v∧J v:=by
 obtain ⟨cs,k,h1,h2⟩:=QI h
 obtain ⟨v,h3,h4⟩:=JaZ h2
 exact ⟨cs,k,v,h1,h3,h4⟩
theorem Jcq {l o:Nat} {v:Value} {J:G→Prop} (h:kSt g l o v J): ∃cs k,g l=some (.cells cs k)∧k.rw=true∧o<cs.length∧J (upd g l (some (.cells (cs.set o v) k))):=by
 obtain ⟨cs,k,h1,h2,h3,_,h4⟩:=QI h
 exact ⟨cs,k,h1,h2,h3,h4⟩
theorem XfB {k:IntKind} (ht:ZdC P f (Extern.Atomic.loadT (.int k))) (h:Qb6 k args g n K):XaU P f args g n K:=by
 intro μ w B cargs hs hr
 obtain ⟨fn,h1,h2,h3,h4,h5⟩:=ht.ex
 unfold Qb6 at h
 split at h
 ·rename_i l o
  obtain ⟨x',rfl,hx⟩:=ZgI hr
  cases hx with
  | @ptr _ m _ hm=>
   obtain ⟨cs,bk,v,hg,hv,hq⟩:=JcE h
   split at hq
   ·obtain ⟨rfl,hq⟩:=hq
    obtain ⟨v',hc,hvr⟩:=hs.load hg hm hv
    cases hvr
    rw [run_call_load h1 h2 h3 h4 _ h5 hc]
    exact Xh hs (.int _ _) hq
   ·exact hq.elim
 ·exact h.elim
theorem QfP {k:IntKind} (ht:ZdC P f (Extern.Atomic.update (Op.intArith .add) k true)) (h:Xc8 k args g n K):XaU P f args g n K:=by
 intro μ w B cargs hs hr
 obtain ⟨fn,h1,h2,h3,h4,h5⟩:=ht.ex
 unfold Xc8 at h
 split at h
 ·rename_i l o k2 y
  obtain ⟨x',y',rfl,hx,hy⟩:=Jgr hr
  cases hy
  obtain ⟨rfl,h⟩:=h
  cases hx with
  | @ptr _ m _ hm=>
   obtain ⟨cs,bk,v,hg,hv,h⟩:=JcE h
   split at h
   ·rename_i k' x
    obtain ⟨rfl,h⟩:=h
    obtain ⟨v',hc,hvr⟩:=hs.load hg hm hv
    cases hvr
    obtain ⟨cs',bk',hg',hrw,hlt,h⟩:=Jcq h
    rw [hg] at hg';cases hg'
    obtain ⟨_,hz,hs',hb⟩:=hs.store hg hm hlt hrw (.int _ (IntKind.wrap _ (x+y)))
    rw [run_call_add h1 h2 h3 h4 _ h5 hc hz (by simp [go_sem];rfl)]
    exact ⟨_,_,n,μ,h,.int _ _,hs',Ext.refl μ,hb⟩
   ·exact h.elim
 ·exact h.elim
theorem Jfv {Fs:List FuncId} (hb:Xdq P f) (hF: ∀F∈Fs,Xdq P F∧QfI P f F) (h:ZdA (XaU P) Fs args g n K):XaU P f args g n K:=by
 intro μ w B cargs hs hr
 obtain ⟨fn,b1,b2,b3⟩:=hb.ex
 unfold ZdA at h
 split at h
 ·rename_i l o F us vs
  obtain ⟨x',y',rfl,hx,hy⟩:=Jgr hr
  obtain ⟨hmem,h0,h1,h⟩:=h
  obtain ⟨hbF,hok⟩:=hF F hmem
  cases hy with
  | @func _ _ _ us' vs' e1 e2 r1 r2=>
  cases hx with
  | @ptr _ m _ hm=>
   obtain ⟨cs,bk,v,hg,hv,rfl⟩:=JcE h0
   obtain ⟨v0,hc0,hvr⟩:=hs.load hg hm hv
   cases hvr
   obtain ⟨cs',bk',v,hg',hv',rfl⟩:=JcE h1
   rw [hg] at hg';cases hg'
   obtain ⟨v1,hc1,hvr⟩:=hs.load hg hm hv'
   cases hvr
   obtain ⟨cs',bk',hg',hrw,hlt,h⟩:=Jcq h
   rw [hg] at hg';cases hg'
   obtain ⟨_,hz,hs1,hb1⟩:=hs.store hg hm hlt hrw (.int .i32 1)
   rw [Jbl b1 b2 b3]
   show Calls P f _ w (Xfz B w μ K)
   refine hok _ _ _ _ _ _ hc0 hc1 hz ?_
   obtain ⟨fF,f1,f2,f3⟩:=hbF.ex
   have hvrs:VRs μ (us.toList++vs.toList) (us'++ #[]++vs').toList:=by
    rw [Array.toList_append,Array.toList_append,List.append_nil]
    exact (VRs.of_get (by simpa using e1) fun i x y hx hy=>r1 i x y (by simpa using hx) (by simpa using hy)).append (VRs.of_get (by simpa using e2) fun i x y hx hy=>r2 i x y (by simpa using hx) (by simpa using hy))
   have hcb:=h μ _ B _ hs1 hvrs
   rw [Jbl f1 f2 f3] at hcb
   refine Calls.mono hcb fun e w2 he=> ?_
   cases e with
   | panicked c=>exact he.elim
   | outgrown=>exact he.elim
   | returned v=>
    obtain ⟨_,g2,n2,μ2,⟨hk1,hk⟩,_,hs2,hx2,hb2⟩:=he
    have hm2:=hx2 _ _ hm
    obtain ⟨cs2,bk2,_,hg2,hv2,rfl⟩:=JcE hk1
    obtain ⟨u1,hc2,hvr⟩:=hs2.load hg2 hm2 hv2
    cases hvr
    obtain ⟨cs',bk',hg',hrw2,hlt2,hk⟩:=Jcq hk
    rw [hg2] at hg';cases hg'
    obtain ⟨hd,hz2,hs3,hb3⟩:=hs2.drew.store hg2 hm2 hlt2 hrw2 (.int .u32 1)
    obtain ⟨cs3,bk3,hg3,hrw3,hlt3,hk⟩:=Jcq hk
    obtain ⟨_,hz3,hs4,hb4⟩:=hs3.store hg3 hm2 hlt3 hrw3 (.int .i32 0)
    have hz4:w2.frozen? ⟨m.b,m.s+(o+1),none⟩=false:=by
     have ho1:o+1<cs2.length:=(List.getElem?_eq_some_iff.1 hv2).1
     exact (hs2.store hg2 hm2 ho1 hrw2 (.int .i32 0)).2.1
    refine ⟨⟨_,rfl⟩,?_,?_,hc2,hz4,?_⟩
    ·obtain ⟨u,hu⟩:=hd;exact ⟨u,by simpa using hu⟩
    ·simpa using hz2
    ·exact ⟨_,_,n2,μ2,hk,.tuple rfl (by intro i x y hx;simp at hx),hs4,hx2,(hb1.trans hb2).trans (((Below.refl B w2).drew.trans hb3).trans hb4)⟩
 ·exact h.elim
end
theorem Jc3 {T:ZeD} (hT:Zgk P T):Jcl P (XF T):=by
 intro f args g n K h
 unfold XF at h
 split at h
 ·rename_i k hk;exact XfB (hT _ _ hk) h
 ·rename_i k hk;exact QfP (hT _ _ hk) h
 ·rename_i k hk;exact Jfv (hT _ _ hk).1 (hT _ _ hk).2 h
 ·rename_i t hk
  unfold Zf3 at h
  split at h
  ·rename_i v hv;exact hT _ _ hk _ _ _ _ _ hv h
  ·exact h.elim
 ·rename_i r hk;exact hT _ _ hk _ _ _ _ h
 ·exact h.elim
def QgC (args:List Value):Option Value:=match args with
 | [.string s,.int .u8 c]=>some (match (List.range s.size).find? (fun i=>s[i]! ==c.toNat.toUInt8) with|some i=> .int .i64 i|none=> .int .i64 (-1))
 | _=>none
theorem JfW {f:FuncId} (ht:ZdC P f Extern.BytealgIndexByte.indexByte): ∀args v g n K,QgC args=some v→K v g n→XaU P f args g n K:=by
 intro args v g n K h hk μ w B cargs hs hr
 obtain ⟨fn,h1,h2,h3,h4,h5⟩:=ht.ex
 unfold QgC at h
 split at h
 ·rename_i s c
  obtain ⟨x',y',rfl,hx,hy⟩:=Jgr hr
  cases hx;cases hy
  cases h
  rw [run_callFunc_extern h1 h2 h3 h4 h5]
  have e:(Extern.BytealgIndexByte.indexByte #[.string s,.int .u8 c]).run P w= .ok (match (List.range s.size).find? (fun i=>s[i]! ==c.toNat.toUInt8) with|some i=> .int .i64 i|none=> .int .i64 (-1)) w:=by
   show Sem.run P (match (List.range s.size).find? (fun i=>s[i]! ==c.toNat.toUInt8) with|some i=>pure (goInt i)|none=>pure (goInt (-1))) w=_
   generalize (List.range s.size).find? (fun i=>s[i]! ==c.toNat.toUInt8)=o
   cases o<;>rfl
  rw [e]
  refine Xh hs ?_ hk
  split<;>exact .int _ _
 ·cases h
def XfL (k:IntKind) (_:ECT) (args:List Value) (h:Tr) (n:Nat) (K:EC):Bool:=
 match args with
 | [.pointer (some ⟨l,o,none⟩)]=>eLd h l o fun v=>match v with
  | .int k' x=>decide (k'=k)&&K (.int k' x) h n
  | _=>false
 | _=>false
def Qgj (k:IntKind) (_:ECT) (args:List Value) (h:Tr) (n:Nat) (K:EC):Bool:=
 match args with
 | [.pointer (some ⟨l,o,none⟩),.int k2 y]=>decide (k2=k)&&eLd h l o fun v=>match v with
  | .int k' x=>decide (k'=k)&&Zdg (k.wrap (x+y)) fun i=>eSt h l o (.int k i) fun h=>K (.int k i) h n
  | _=>false
 | _=>false
def Qgk (Fs:List FuncId) (D:ECT) (args:List Value) (h:Tr) (n:Nat) (K:EC):Bool:=
 match args with
 | [.pointer (some ⟨l,o,none⟩),.func (.func F) us vs]=>Fs.contains F&&(eLd h l o (fun v=>Jdo v (.int .u32 0))&&(eLd h l (o+1) (fun v=>Jdo v (.int .i32 0))&&eSt h l (o+1) (.int .i32 1) fun h1=>
   D F (us.toList++vs.toList) h1 n fun _ h2 n2=>eLd h2 l (o+1) (fun v=>Jdo v (.int .i32 1))&&eSt h2 l o (.int .u32 1) fun h3=>eSt h3 l (o+1) (.int .i32 0) fun h4=>K (.tuple #[]) h4 n2))
 | _=>false
def JgD (t:List Value→Option Value) (_:ECT) (args:List Value) (h:Tr) (n:Nat) (K:EC):Bool:=
 match t args with
 | some v=>K v h n
 | none=>false
def Qgh (r:List Value→G→Option (Value×Option (Nat×Nat×Value))) (_:ECT) (args:List Value) (h:Tr) (n:Nat) (K:EC):Bool:=
 match r args h.get with
 | some (v,none)=>K v h n
 | some (v,some (l,o,x))=>eSt h l o x fun h=>K v h n
 | none=>false
def HT (T:ZeD):EH:=fun f=>match T f with
 | some (.ld k)=>some (XfL k)
 | some (.add k)=>some (Qgj k)
 | some (.slow Fs)=>some (Qgk Fs)
 | some (.tab t)=>some (JgD t)
 | some (.look r)=>some (Qgh r)
 | none=>none
theorem Jgl {T:ZeD} {C:CT} (hC: ∀f args g n K,XF T C f args g n K→C f args g n K):HOk (HT T) C:=by
 intro f e hf D hD args h n k K hk he
 refine hC _ _ _ _ _ ?_
 unfold HT at hf
 unfold XF
 cases ht:T f with
 | none=>rw [ht] at hf;cases hf
 | some x=>
  rw [ht] at hf
  cases x with
  | ld kd=>
   cases hf
   unfold XfL at he
   show Qb6 _ _ _ _ _
   unfold Qb6
   split at he
   ·refine QdG (fun v e=> ?_) he
    split at e
    ·simp only [Bool.and_eq_true,decide_eq_true_eq] at e;exact ⟨e.1,hk _ _ _ e.2⟩
    ·cases e
   ·cases he
  | add kd=>
   cases hf
   unfold Qgj at he
   show Xc8 _ _ _ _ _
   unfold Xc8
   split at he
   ·simp only [Bool.and_eq_true,decide_eq_true_eq] at he
    refine ⟨he.1,QdG (fun v e=> ?_) he.2⟩
    split at e
    ·simp only [Bool.and_eq_true,decide_eq_true_eq,Jb4] at e
     exact ⟨e.1,Qei (fun h e=>hk _ _ _ e) e.2⟩
    ·cases e
   ·cases he
  | slow Fs=>
   cases hf
   unfold Qgk at he
   show ZdA _ _ _ _ _ _
   unfold ZdA
   split at he
   ·simp only [Bool.and_eq_true] at he
    obtain ⟨h1,h2,h3,h4⟩:=he
    refine ⟨by simpa using h1,QdG (fun v e=>Jco e) h2,QdG (fun v e=>Jco e) h3,Qei (fun h5 e=>hD _ _ _ _ _ _ (fun v6 h6 n6 e=> ?_) e) h4⟩
    simp only [Bool.and_eq_true] at e
    exact ⟨QdG (fun v e=>Jco e) e.1,Qei (K:=fun g=>kSt g _ _ _ _) (fun h7 e=>Qei (fun h8 e=>hk _ _ _ e) e) e.2⟩
   ·cases he
  | tab t=>
   cases hf
   unfold JgD at he
   show Zf3 _ _ _ _ _
   unfold Zf3
   split at he
   ·exact hk _ _ _ he
   ·cases he
  | look r=>
   cases hf
   unfold Qgh at he
   show Xcs _ _ _ _ _
   unfold Xcs
   split at he
   ·exact hk _ _ _ he
   ·exact Qei (fun h e=>hk _ _ _ e) he
   ·cases he
def XP (P:Program) (T:ZeD):XT:=XEH P (HT T) (XF T)
theorem XfP (T:ZeD):Qdc (XP P T):=XfD (ZfN T)
theorem Zft (hD: ∀B,Qaq P B) {T:ZeD} (hT:Zgk P T):Jcl P (XP P T):=Jfg hD (Jc3 hT) (Jgl (Jc3 hT))
end Go.Proofs.YtmchcjaomcdbmaaGreat.Abs
namespace Go.Proofs.YtmchcjaomcdbmaaGreat.Abs
open Go Go.RowKit
variable {P:Program}
def isU64:Value→Bool| .int .u64 _=>true|_=>false
theorem QeC {v:Value} (h:isU64 v=true):isCell v=true:=by unfold isU64 at h;split at h<;>first|rfl|cases h
theorem Xe6 {v:Value} (h:isU64 v=true): ∃z,v= .int .u64 z:=by unfold isU64 at h;split at h<;>first|exact ⟨_,rfl⟩|cases h
def JcH (es:List Value) (o:Nat):Option (Int×List Value):=
 if o+9≤es.length∧((es.drop (o+1)).take 8).all isU64=true then match es[o]? with
  | some (.int .i64 y)=>some (y,(es.drop (o+1)).take 8)
  | _=>none
 else none
def Xej (es:List Value) (os:Nat) (x:Int):Nat→Option (Option (List Value))
 | 0=>some none
 | k+1=>match JcH es (os+k*9) with
  | some (y,d)=>match Xej es os x k with
   | some r=>if y=x then some (some d) else some r
   | none=>none
  | none=>none
def Zem (g:G) (a:Option Addr) (len:Nat) (x:Int):Option (Option (List Value)):=
 if len=0 then some none else if len<1099511627776 then match a with
  | some ⟨ls,os,none⟩=>match g ls with
   | some (.cells es _)=>Xej es os x len
   | _=>none
  | _=>none
 else none
def Jf7 (ld od:Nat) (x:Int) (g:G):Option (Value×Option (Nat×Nat×Value)):=
 match g ld with
 | some (.cells ds _)=>match ds[od]?,ds[od+2]? with
  | some (.slice (some ⟨ll,ol,none⟩) m _),some (.int .i64 r)=>
   if 0≤x∧x<m∧ll≠ld∧m<1099511627776 then match g ll with
    | some (.cells ws _)=>if ol+x.toNat*8+8≤ws.length∧((ws.drop (ol+x.toNat*8)).take 8).all isU64=true then
      some (.tuple #[.agg ((ws.drop (ol+x.toNat*8)).take 8).toArray,.int .i64 0],some (ld,od+2,.int .i64 (IntKind.wrap .i64 (r+1))))
     else none
    | _=>none
   else none
  | _,_=>none
 | _=>none
def Jel (args:List Value) (g:G):Option (Value×Option (Nat×Nat×Value)):=
 match args with
 | [.pointer (some ⟨l,o,none⟩),.int .i64 x]=>match g l with
  | some (.cells cs _)=>match cs[o]?,cs[o+2]? with
   | some (.pointer (some ⟨ld,od,none⟩)),some (.slice a len _)=>match Zem g a len x with
    | some (some d)=>some (.tuple #[.agg d.toArray,.int .i64 0],none)
    | some none=>Jf7 ld od x g
    | none=>none
   | _,_=>none
  | _=>none
 | _=>none
def Xef (E:Nat→Value):Value:= .agg #[E 0,E 1,E 2,E 3,E 4,E 5,E 6,E 7]
def QfG (P:Program) (f:FuncId):Prop:= ∀(b off db dof sb so len cap:Nat) (a:Option Addr) (x:Int) (L:Nat→Int) (E:Nat→Nat→Value) (w:World) (R:Ending→World→Prop),
 w.cell? ⟨b,off,none⟩=some (.pointer (some ⟨db,dof,none⟩))→w.cell? ⟨b,off+2,none⟩=some (.slice a len cap)→(0<len→a=some ⟨sb,so,none⟩)→len<1099511627776→
 (∀j,j<len→w.cell? ⟨sb,so+j*9,none⟩=some (.int .i64 (L j)))→(∀j i,j<len→i<8→w.cell? ⟨sb,so+j*9+1+i,none⟩=some (E j i))→(∀j i,isU64 (E j i)=true)→
 (∀k,k<len→L k=x→(∀j,k<j→j<len→L j≠x)→ ∀w1,Below w.heap.size w w1→R (.returned (.tuple #[Xef (E k),.int .i64 0])) w1)→
 ((∀j,j<len→L j≠x)→ ∃(lb lo m c:Nat) (r:Int) (W:Nat→Value),lb≠db∧w.cell? ⟨db,dof,none⟩=some (.slice (some ⟨lb,lo,none⟩) m c)∧0≤x∧x<m∧m<1099511627776∧
  (∀i,i<8→w.cell? ⟨lb,lo+x.toNat*8+i,none⟩=some (W i))∧(∀i,isU64 (W i)=true)∧w.cell? ⟨db,dof+2,none⟩=some (.int .i64 r)∧w.frozen? ⟨db,dof+2,none⟩=false∧
  ∀w1 w2,Below w.heap.size w w1→Below w.heap.size (w1.setCell ⟨db,dof+2,none⟩ (.int .i64 (IntKind.wrap .i64 (r+1)))) w2→R (.returned (.tuple #[Xef W,.int .i64 0])) w2)→
 Calls P f #[.pointer (some ⟨b,off,none⟩),.int .i64 x] w R
section
variable {es:List Value} {os:Nat} {x:Int}
theorem Xcv {o:Nat} {y:Int} {d:List Value} (h:JcH es o=some (y,d)):o+9≤es.length∧es[o]? =some (.int .i64 y)∧d=(es.drop (o+1)).take 8∧d.all isU64=true:=by
 unfold JcH at h
 split at h
 ·rename_i hl
  split at h
  ·rename_i z hz
   cases h
   exact ⟨hl.1,hz,rfl,hl.2⟩
  ·cases h
 ·cases h
theorem Qds: ∀(k:Nat) (r:Option (List Value)),Xej es os x k=some r→(∀j,j<k→ ∃y d,JcH es (os+j*9)=some (y,d))∧
  (match r with
   | none=> ∀j y d,j<k→JcH es (os+j*9)=some (y,d)→y≠x
   | some d=> ∃i,i<k∧JcH es (os+i*9)=some (x,d)∧ ∀j y d,i<j→j<k→JcH es (os+j*9)=some (y,d)→y≠x)
 | 0,r,h=>by
  cases h
  exact ⟨fun j hj=>absurd hj (by omega),fun j _ _ hj=>absurd hj (by omega)⟩
 | k+1,r,h=>by
  simp only [Xej] at h
  split at h
  ·rename_i y d he
   split at h
   ·rename_i r' hr'
    obtain ⟨h1,h2⟩:=Qds k r' hr'
    refine ⟨fun j hj=> ?_,?_⟩
    ·by_cases hjk:j=k
     ·subst hjk;exact ⟨_,_,he⟩
     ·exact h1 j (by omega)
    ·split at h
     ·rename_i hyx
      subst hyx
      cases h
      exact ⟨k,by omega,he,fun j y d hj hjk=>absurd hjk (by omega)⟩
     ·rename_i hyx
      cases h
      cases r with
      | none=>
       intro j y' d' hj hjd
       by_cases hjk:j=k
       ·subst hjk;rw [he] at hjd;cases hjd;exact hyx
       ·exact h2 j y' d' (by omega) hjd
      | some d0=>
       obtain ⟨i,hi,hid,hl⟩:=h2
       refine ⟨i,by omega,hid,fun j y' d' hj hjk' hjd=> ?_⟩
       by_cases hjk:j=k
       ·subst hjk;rw [he] at hjd;cases hjd;exact hyx
       ·exact hl j y' d' hj (by omega) hjd
   ·cases h
  ·cases h
end
section
variable {g:G} {n:Nat} {K:Cont} {f:FuncId} {args:List Value} {μ:Mu} {w:World} {B:Nat}
def orZ (o:Option Value):Value:=match o with|some v=>if isU64 v=true then v else .int .u64 0|none=> .int .u64 0
theorem Jd6 (o:Option Value):isU64 (orZ o)=true:=by
 unfold orZ;split
 ·split
  ·assumption
  ·rfl
 ·rfl
theorem VR.isU64 {v v':Value} (h:VR μ v v'):Go.Proofs.YtmchcjaomcdbmaaGreat.Abs.isU64 v'=Go.Proofs.YtmchcjaomcdbmaaGreat.Abs.isU64 v:=by cases h<;>rfl
theorem Xci {v:Value} (h:isU64 v=true):orZ (some v)=v:=by simp [orZ,h]
theorem Sim.below {w':World} (h:Sim μ g n w B) (hb:Below w.heap.size w w'):Sim μ g n w' B:=
 ⟨h.dom,h.gdom,fun l b m e f=>(h.live l b m e f).mono (Ext.refl μ) (hb.block _ (h.live l b m e f).lt),h.inj,Nat.le_trans h.base hb.size⟩
theorem JeK {ds:List Value} {E:Nat→Value} (hl:ds.length=8) (h: ∀(i:Nat) (v:Value),ds[i]? =some v→i<8→VR μ v (E i)):VR μ (.agg ds.toArray) (Xef E):=by
 refine .agg (by simp [hl]) fun i x y hx hy=> ?_
 have hi:i<8:=by
  have:=(Array.getElem?_eq_some_iff.1 hy).1;simpa using this
 have hv:=h i x (by simpa using hx) hi
 match i,hi with
 | 0,_=>cases hy;exact hv
 | 1,_=>cases hy;exact hv
 | 2,_=>cases hy;exact hv
 | 3,_=>cases hy;exact hv
 | 4,_=>cases hy;exact hv
 | 5,_=>cases hy;exact hv
 | 6,_=>cases hy;exact hv
 | 7,_=>cases hy;exact hv
theorem ZeJ {v v':Value} (h:VR μ v v'):VR μ (.tuple #[v,.int .i64 0]) (.tuple #[v',.int .i64 0]):=by
 refine .tuple rfl fun i x y hx hy=> ?_
 match i with
 | 0=>cases hx;cases hy;exact h
 | 1=>cases hx;cases hy;exact .int _ _
 | i+2=>simp at hx
theorem Xfq (hb:Xdq P f) (hok:QfG P f) (h:Xcs Jel args g n K):XaU P f args g n K:=by
 intro μ w B cargs hs hr
 obtain ⟨fn,b1,b2,b3⟩:=hb.ex
 have hrr: ∃q,Jel args g=some q∧(match q with|(v,none)=>K v g n|(v,some (l,o,x))=>kSt g l o x fun g=>K v g n):=by
  unfold Xcs at h
  split at h
  ·rename_i v hv;exact ⟨_,hv,h⟩
  ·rename_i v l o x hv;exact ⟨_,hv,h⟩
  ·exact h.elim
 clear h
 obtain ⟨q,hq,hK⟩:=hrr
 unfold Jel at hq
 split at hq
 ·rename_i l o x
  split at hq
  ·rename_i cs bk hg
   split at hq
   ·rename_i ld od a len c hd hsl
    obtain ⟨x',y',rfl,hx,hy⟩:=Jgr hr
    cases hy
    cases hx with
    | @ptr _ m _ hm=>
    rw [Jbl b1 b2 b3]
    show Calls P f _ w (Xfz B w μ K)
    obtain ⟨dv,hdc,hdr⟩:=hs.load hg hm hd
    obtain ⟨sv,hsc,hsr⟩:=hs.load hg hm hsl
    cases hdr with
    | @ptr _ md _ hmd=>
    have hslice: ∃(a':Option Addr) (c':Nat),sv= .slice a' len c'∧(0<len→ ∀ls os,a=some ⟨ls,os,none⟩→ ∃m,μ ls=some m∧a'=some ⟨m.b,m.s+os,none⟩):=by
     cases hsr with
     | nilslice=>exact ⟨_,_,rfl,fun h=>absurd h (by omega)⟩
     | @slx l m o n c a' hc hn hm ha=>
      refine ⟨_,_,rfl,fun hlen ls os e=> ?_⟩
      cases e
      rcases ha with ha|ha
      ·exact ⟨m,hm,by rw [ha]⟩
      ·omega
     | @sll l m o j n c o' hm h1 h2 h3 h4=>
      refine ⟨_,_,rfl,fun hlen ls os e=> ?_⟩
      cases e
      rcases h4 with h4|h4
      ·exact ⟨m,hm,by rw [h4]⟩
      ·omega
    obtain ⟨a',c',rfl,hsl'⟩:=hslice
    clear hsr
    have hfind: ∃r,Zem g a len x=some r∧(match r with|some d=>q=(.tuple #[.agg d.toArray,.int .i64 0],none)|none=>Jf7 ld od x g=some q):=by
     split at hq
     ·rename_i d hf;cases hq;exact ⟨_,hf,rfl⟩
     ·rename_i hf;exact ⟨_,hf,hq⟩
     ·cases hq
    clear hq
    obtain ⟨r,hf,hr2⟩:=hfind
    have hent:len<1099511627776∧ ∃(sb so:Nat) (L:Nat→Int) (E:Nat→Nat→Value),(0<len→a'=some ⟨sb,so,none⟩)∧(∀j,j<len→w.cell? ⟨sb,so+j*9,none⟩=some (.int .i64 (L j)))∧
      (∀j i,j<len→i<8→w.cell? ⟨sb,so+j*9+1+i,none⟩=some (E j i))∧(∀j i,isU64 (E j i)=true)∧
      (match r with
       | none=>True
       | some d=> ∀k,k<len→L k=x→(∀j,k<j→j<len→L j≠x)→VR μ (.agg d.toArray) (Xef (E k)))∧
      ((∀j,j<len→L j≠x)→r=none)∧((∃k,k<len∧L k=x)→r≠none):=by
     unfold Zem at hf
     split at hf
     ·rename_i h0
      cases hf
      subst h0
      exact ⟨by omega,0,0,fun _=>0,fun _ _=> .int .u64 0,fun h=>absurd h (by omega),fun j hj=>absurd hj (by omega),fun j _ hj=>absurd hj (by omega),fun _ _=>rfl,trivial,fun _=>rfl,fun ⟨k,hk,_⟩=>absurd hk (by omega)⟩
     ·rename_i h0
      split at hf
      ·rename_i hlt
       split at hf
       ·rename_i ls os _
        split at hf
        ·rename_i es ek hge
         obtain ⟨ms,hms,ha'⟩:=hsl' (by omega) _ _ rfl
         obtain ⟨hall,hres⟩:=Qds _ _ hf
         refine ⟨hlt,ms.b,ms.s+os,fun j=>match JcH es (os+j*9) with|some (y,_)=>y|none=>0,fun j i=>orZ (w.cell? ⟨ms.b,ms.s+os+j*9+1+i,none⟩),fun _=>ha',?_,?_,fun _ _=>Jd6 _,?_,?_,?_⟩
         ·intro j hj
          obtain ⟨y,d,he⟩:=hall j hj
          simp only [he]
          obtain ⟨_,h2,_,_⟩:=Xcv he
          obtain ⟨v',hv,hvr⟩:=hs.load hge hms h2
          cases hvr
          rw [←hv,Nat.add_assoc]
         ·intro j i hj hi
          obtain ⟨y,d,he⟩:=hall j hj
          obtain ⟨h1,_,hd',hdc⟩:=Xcv he
          have hcl:isU64 (es[os+j*9+1+i]'(by omega))=true:=by
           subst hd'
           refine List.all_eq_true.1 hdc _ (List.mem_of_getElem? (i:=i) ?_)
           rw [List.getElem?_take,if_pos hi,List.getElem?_drop,List.getElem?_eq_getElem (by omega)]
          obtain ⟨v',hv,hvr⟩:=hs.load (o:=os+j*9+1+i) hge hms (List.getElem?_eq_getElem (by omega))
          have e:ms.s+(os+j*9+1+i)=ms.s+os+j*9+1+i:=by omega
          rw [e] at hv
          show _=some (orZ (w.cell? ⟨ms.b,ms.s+os+j*9+1+i,none⟩))
          rw [hv,Xci (hvr.isU64.trans hcl)]
         ·cases r with
          | none=>trivial
          | some d=>
           intro k hk hLk hlast
           obtain ⟨i0,hi0,he0,hl0⟩:=hres
           have hki:k=i0:=by
            obtain ⟨y,d',he⟩:=hall k hk
            simp only [he] at hLk
            subst hLk
            rcases Nat.lt_trichotomy k i0 with hlt'|heq|hgt
            ·have:=hlast i0 hlt' hi0
             simp only [he0] at this
             exact absurd rfl this
            ·exact heq
            ·exact absurd rfl (hl0 k _ _ hgt hk he)
           subst hki
           obtain ⟨h1,h2,rfl,hdc⟩:=Xcv he0
           refine JeK (by simp;omega) fun i v hv hi=> ?_
           have hcl:=List.all_eq_true.1 hdc _ (List.mem_of_getElem? hv)
           rw [List.getElem?_take,if_pos hi,List.getElem?_drop] at hv
           obtain ⟨v',hv',hvr⟩:=hs.load hge hms hv
           have e:ms.s+(os+k*9+1+i)=ms.s+os+k*9+1+i:=by omega
           rw [e] at hv'
           show VR μ v (orZ (w.cell? ⟨ms.b,ms.s+os+k*9+1+i,none⟩))
           rw [hv',Xci (hvr.isU64.trans hcl)];exact hvr
         ·intro hno
          cases r with
          | none=>rfl
          | some d=>
           obtain ⟨i0,hi0,he0,_⟩:=hres
           have:=hno i0 hi0
           simp only [he0] at this
           exact absurd rfl this
         ·rintro ⟨k,hk,hLk⟩ rfl
          obtain ⟨y,d',he⟩:=hall k hk
          simp only [he] at hLk
          exact hres k y d' hk he hLk
        ·cases hf
       ·cases hf
      ·cases hf
    obtain ⟨hlen,sb,so,L,E,ha',hL,hE,hEc,hfound,hnone,hsome⟩:=hent
    refine hok m.b (m.s+o) md.b (md.s+od) sb so len c' a' x L E w _ hdc (by rw [←hsc,Nat.add_assoc]) ha' hlen hL hE hEc ?_ ?_
    ·intro k hk hLk hlast w1 hw1
     cases r with
     | none=>exact absurd rfl (hsome ⟨k,hk,hLk⟩)
     | some d=>
      subst hr2
      exact ⟨_,g,n,μ,hK,ZeJ (hfound k hk hLk hlast),hs.below hw1,Ext.refl μ,hw1.mono hs.base⟩
    ·intro hno
     have hrn:=hnone hno
     subst hrn
     replace hr2:Jf7 ld od x g=some q:=hr2
     unfold Jf7 at hr2
     split at hr2
     ·rename_i ds dk hgd
      split at hr2
      ·rename_i ll ol mm cc rr hd0 hd2
       split at hr2
       ·rename_i hcond
        obtain ⟨hx0,hxm,hne,hmm⟩:=hcond
        split at hr2
        ·rename_i ws wk hgw
         split at hr2
         ·rename_i hwl
          cases hr2
          obtain ⟨lv,hlc,hlr⟩:=hs.load hgd hmd hd0
          obtain ⟨rv,hrc,hrr⟩:=hs.load hgd hmd hd2
          cases hrr
          obtain ⟨cs',bk',hg',hrw,hlt,hK⟩:=Jcq hK
          rw [hgd] at hg';cases hg'
          have hlx: ∃(m':Pl) (c2:Nat),μ ll=some m'∧lv= .slice (some ⟨m'.b,m'.s+ol,none⟩) mm c2:=by
           cases hlr with
           | @slx _ m' _ _ _ _ hc hn hm' ha=>
            rcases ha with ha|ha
            ·exact ⟨m',_,hm',by rw [ha]⟩
            ·omega
           | @sll _ m' _ j _ c2 o2 hm' h1 h2 h3 h4=>
            rcases h4 with h4|h4
            ·exact ⟨m',_,hm',by rw [h4]⟩
            ·omega
          obtain ⟨m',c2,hm',rfl⟩:=hlx
          have hst:=hs.store hgd hmd hlt hrw (.int .i64 (IntKind.wrap .i64 (rr+1)))
          refine ⟨m'.b,m'.s+ol,mm,c2,rr,fun i=>orZ (w.cell? ⟨m'.b,m'.s+ol+x.toNat*8+i,none⟩),hs.apart hgd hmd (by cases dk<;>simp_all [Blk.rw,BK.rw]) hgw hm' hne,hlc,hx0,hxm,hmm,?_,fun _=>Jd6 _,?_,?_,?_⟩
          ·intro i hi
           have hcl:isU64 (ws[ol+x.toNat*8+i]'(by omega))=true:=by
            refine List.all_eq_true.1 hwl.2 _ (List.mem_of_getElem? (i:=i) ?_)
            rw [List.getElem?_take,if_pos hi,List.getElem?_drop,List.getElem?_eq_getElem (by omega)]
           obtain ⟨v',hv,hvr⟩:=hs.load (o:=ol+x.toNat*8+i) hgw hm' (List.getElem?_eq_getElem (by omega))
           have e:m'.s+(ol+x.toNat*8+i)=m'.s+ol+x.toNat*8+i:=by omega
           rw [e] at hv
           show _=some (orZ (w.cell? ⟨m'.b,m'.s+ol+x.toNat*8+i,none⟩))
           rw [hv,Xci (hvr.isU64.trans hcl)]
          ·rw [←hrc,Nat.add_assoc]
          ·rw [Nat.add_assoc];exact hst.2.1
          ·intro w1 w2 h1 h2
           have hs1:=hs.below h1
           obtain ⟨_,_,hs2,hb2⟩:=hs1.store hgd hmd hlt hrw (.int .i64 (IntKind.wrap .i64 (rr+1)))
           rw [←Nat.add_assoc] at hs2 hb2
           have hsz:w.heap.size≤(w1.setCell ⟨md.b,md.s+od+2,none⟩ (.int .i64 (IntKind.wrap .i64 (rr+1)))).heap.size:=by
            simpa [World.setCell] using h1.size
           have hs3:Sim μ (upd g ld (some (.cells (ds.set (od+2) (.int .i64 (IntKind.wrap .i64 (rr+1)))) dk))) n w2 B:=by
            refine ⟨hs2.dom,hs2.gdom,fun l b m e f=> ?_,hs2.inj,Nat.le_trans hs2.base h2.size⟩
            refine (hs2.live l b m e f).mono (Ext.refl μ) (h2.block _ ?_)
            by_cases hl:l=ld
            ·subst hl
             rw [hmd] at f;cases f
             exact (hs.live _ _ _ hgd hmd).lt
            ·rw [Qc _ _ hl] at e
             exact (hs.live _ _ _ e f).lt
           refine ⟨_,_,n,μ,hK,ZeJ (JeK (by simp;omega) fun i v hv hi=> ?_),hs3,Ext.refl μ,((h1.mono hs.base).trans hb2).trans (h2.mono hs.base)⟩
           have hcl:=List.all_eq_true.1 hwl.2 _ (List.mem_of_getElem? hv)
           rw [List.getElem?_take,if_pos hi,List.getElem?_drop] at hv
           obtain ⟨v',hv',hvr⟩:=hs.load hgw hm' hv
           have e:m'.s+(ol+x.toNat*8+i)=m'.s+ol+x.toNat*8+i:=by omega
           rw [e] at hv'
           show VR μ v (orZ (w.cell? ⟨m'.b,m'.s+ol+x.toNat*8+i,none⟩))
           rw [hv',Xci (hvr.isU64.trans hcl)];exact hvr
         ·cases hr2
        ·cases hr2
       ·cases hr2
      ·cases hr2
     ·cases hr2
   ·cases hq
  ·cases hq
 ·cases hq
end
end Go.Proofs.YtmchcjaomcdbmaaGreat.Abs
namespace Go.Proofs.YtmchcjaomcdbmaaGreat.Abs
open Go Go.RowKit
variable {P:Program}
theorem Qdt (hD: ∀B,Qaq P B) {H:EH} (hH:HOk H (XaU P)) {f:FuncId} {args:List Value} {v:Value} (fuel depth:Nat) (h1:plain 3 v=true) (h2:args.all (plain 3)=true)
  (h3:ZaO P H fuel depth f args .nil 0 (fun v' _ _=>Zc8 v' v)=true) {g:G} {n:Nat} {K:Cont} (hK:K v g n):XaU P f args g n K:=by
 intro μ w B cargs hs hr
 have hx:XaU P f args (Tr.nil).get 0 (fun v' _ _=>v'=v):=XbP (XbB hD) hH depth f args .nil 0 _ _ (fun v' h n e=>XeJ e) h3
 have hc:=hx (fun _=>none) w w.heap.size cargs
  ⟨fun _ _ h=>by simp at h,fun _ _=>rfl,fun _ _ _ _ h=>by simp at h,fun _ _ _ _ _ _ _ _ _ _ h=>by simp at h,Nat.le_refl _⟩ (Zcq hr h2)
 have fin: ∀v' w',Fin w.heap.size w (fun _=>none) (fun v' _ _=>v'=v) v' w'→Fin B w μ K v' w':=by
  rintro v' w' ⟨v1,g1,n1,μ1,rfl,hv,_,_,hb⟩
  have hv:=ZbO hv 3 h1
  subst hv
  refine ⟨_,g,n,μ,hK,Qav μ 3 _ h1,?_,Ext.refl _,?_⟩
  ·exact ⟨hs.dom,hs.gdom,fun l b m hg hm=>(hs.live l b m hg hm).mono (Ext.refl μ) (hb.block _ (hs.live l b m hg hm).lt),hs.inj,Nat.le_trans hs.base hb.size⟩
  ·exact hb.mono hs.base
 revert hc
 generalize (callFunc f cargs).run P w=r
 intro hc
 cases r with
 | ok x w'=>
  cases x<;>simp only [Upon] at hc ⊢ <;>first
   | exact fin _ _ hc
   | exact hc.elim
   | exact Calls.mono hc fun e w'' he=>by cases e<;>simp only [Xfz] at he ⊢ <;>exact fin _ _ he
   | exact Rows.mono hc fun v w'' he=>fin _ _ he
   | skip
 | halt x w'=>exact hc.elim
theorem ZfE (hD: ∀B,Qaq P B) {T:ZeD} (hT:Zgk P T) {f:FuncId} {args:List Value} {v:Value} (fuel depth:Nat) (h1:plain 3 v=true) (h2:args.all (plain 3)=true)
  (h3:ZaO P (HT T) fuel depth f args .nil 0 (fun v' _ _=>Zc8 v' v)=true) {g:G} {n:Nat} {K:Cont} (hK:K v g n):XaU P f args g n K:=
 Qdt hD (Jgl (Jc3 hT)) fuel depth h1 h2 h3 hK
def Zgy (v:Value) (args:List Value):Option Value:=match args with|[]=>some v|_=>none
theorem XfC {v v':Value} {args:List Value} (h:Zgy v args=some v'):args=[]∧v'=v:=by
 unfold Zgy at h;split at h
 ·cases h;exact ⟨rfl,rfl⟩
 ·cases h
end Go.Proofs.YtmchcjaomcdbmaaGreat.Abs
namespace Go.Proofs.YtmchcjaomcdbmaaGreat.Abs
open Go Go.RowKit
variable {P:Program}
def Jgx:Value→Value→Bool
 | .func (.func F) us vs,.func (.func F') us' vs'=>Nat.beq F F'&&(QdH us.toList us'.toList&&QdH vs.toList vs'.toList)
 | .nilFunc,.nilFunc=>true
 | a,b=>Jdo a b
def QfK:List Value→List Value→Bool
 | [],[]=>true
 | x::xs,y::ys=>Jgx x y&&QfK xs ys
 | _,_=>false
def ZfH:Option Blk→Option Blk→Bool
 | none,none=>true
 | some (.cells cs k),some (.cells cs' k')=>JfS k k'&&QfK cs cs'
 | _,_=>false
def Je3:Tr→Tr→Bool
 | .nil,.nil=>true
 | .node l b r,.node l' b' r'=>ZfH b b'&&(Je3 l l'&&Je3 r r')
 | _,_=>false
def ZfI:List Value→List Value→Bool
 | [],[]=>true
 | x::xs,y::ys=>Zc8 x y&&ZfI xs ys
 | _,_=>false
def JfM:Tr→Tr→Bool
 | .nil,_=>true
 | .node l b r,.node l' b' r'=>(match b with|none=>true|some c=>ZfH (some c) b')&&(JfM l l'&&JfM r r')
 | .node ..,.nil=>false
structure Row where
 f:FuncId
 args:List Value
 h:Tr
 n:Nat
 v:Value
 h':Tr
 n':Nat
def Row.ok (P:Program) (H:EH) (fuel depth:Nat) (r:Row):Bool:=
 ZaO P H fuel depth r.f r.args r.h r.n fun v h n=>Zc8 v r.v&&(JfM r.h' h&&Nat.ble n r.n')
def Row.is (r:Row) (f:FuncId) (args:List Value) (h:Tr) (n:Nat):Bool:=Nat.beq f r.f&&(Nat.beq n r.n&&(ZfI args r.args&&Je3 h r.h))
end Go.Proofs.YtmchcjaomcdbmaaGreat.Abs
namespace Go.Proofs.YtmchcjaomcdbmaaGreat.Abs
open Go Go.RowKit
variable {P:Program}
end Go.Proofs.YtmchcjaomcdbmaaGreat.Abs
namespace Go.Proofs.YtmchcjaomcdbmaaGreat.Abs
open Go Go.RowKit
variable {P:Program}
inductive FK where
 | b
 | i (k:IntKind)
section
variable {H:Type} {enc:TypeId×Value→H} {w:World} {base:Nat} {spare:Nat→Bool} {held:Bool}
end
abbrev Ent:=Pl×Option (List Value)
def JeD (es:List Ent):Mu:=fun l=>(es[l]?).map (·.1)
def gOf (es:List Ent):G:=fun l=>match es[l]? with
 | some (_,some cs)=>some (.cells cs .ro)
 | _=>none
theorem Zbn {w:World} {base:Nat} {a:Addr} {n:Nat} {c:List Value} (h:w.cells? base a n=some c):c.length=n∧ ∀j,j<n→w.cell? (a.add j)=c[j]? :=by
 unfold World.cells? at h
 split at h
 ·exact ⟨by simpa using mapM_some_length h,fun j hj=>by simpa using mapM_some_get h j j (by simp [hj])⟩
 ·cases h
theorem ZdW {els:List (List Value)} {z:Nat} (hz: ∀c∈els,c.length=z) (h0:0<z) (i:Nat) (v:Value) (h:els.flatten[i]? =some v): ∃c,els[i/z]? =some c∧c[i%z]? =some v:=by
 induction els generalizing i with
 | nil=>simp at h
 | cons c els ih=>
  have hc:c.length=z:=hz c (by simp)
  rw [List.flatten_cons,List.getElem?_append] at h
  split at h
  ·rename_i hi
   rw [Nat.div_eq_of_lt (by omega),Nat.mod_eq_of_lt (by omega)]
   exact ⟨c,rfl,h⟩
  ·rename_i hi
   obtain ⟨c',h1,h2⟩:=ih (fun c hc=>hz c (by simp [hc])) _ h
   have e1:i/z=(i-z)/z+1:=by rw [Nat.div_eq i z,if_pos ⟨h0,by omega⟩]
   have e2:i%z=(i-z)%z:=by rw [Nat.mod_eq i z,if_pos ⟨h0,by omega⟩]
   rw [e1,e2,←hc]
   rw [hc]
   refine ⟨c',by simpa [hc] using h1,by simpa [hc] using h2⟩
theorem Zcs {w:World} {a:Addr} {v:Value} (h:w.cell? a=some v):a.spot=none∧ ∃cells elem fz,w.heap[a.block]? =some (.cells cells elem fz)∧cells[a.off]? =some v:=by
 unfold World.cell? at h
 split at h
 ·rename_i c el fz hh
  split at h
  ·cases h
  ·rename_i hs
   refine ⟨by simpa using hs,c,el,fz,hh,h⟩
 ·cases h
theorem XcT (a:Addr) (n:Nat):(a.add n).block=a.block:=by unfold Addr.add;split<;>rfl
theorem Jd0 (a:Addr) (n:Nat):(a.add n).off=a.off+n:=by unfold Addr.add;split<;>simp_all
end Go.Proofs.YtmchcjaomcdbmaaGreat.Abs
namespace Go.Proofs.YtmchcjaomcdbmaaGreat.Abs
open Go Go.RowKit Go.ChangeShapes Go.WideShapes Go.ChangeAt
variable {P:Program}
section
variable {H:Type} {enc:TypeId×Value→H} {w:World} {base:Nat} {held:Bool}
end
end Go.Proofs.YtmchcjaomcdbmaaGreat.Abs
namespace Go.Proofs.YtmchcjaomcdbmaaGreat.Abs
open Go Go.RowKit Go.ChangeShapes Go.WideShapes Go.ChangeAt
variable {P:Program}
section
variable {H:Type} {enc:TypeId×Value→H} {w:World} {base:Nat} {held:Bool} {spare:Nat→Bool}
theorem Jen {r:Reach} {b0:Nat} {t:TypeId} {v:Value} (ht:(∃fs,P.underlying t=some (.struct fs))∨ ∃n e,P.underlying t=some (.array n e)) (h:Value.okWide P w r b0 t v): ∃xs:Array Value,v= .agg xs:=by
 rcases ht with ⟨fs,ht⟩|⟨n,e,ht⟩
 ·simp only [Value.okWide,ht] at h
  cases v<;>simp_all [Cell.okWide,Cell.ok]
 ·simp only [Value.okWide,ht] at h
  cases v<;>simp_all [Cell.okWide,Cell.ok]
end
end Go.Proofs.YtmchcjaomcdbmaaGreat.Abs
namespace Go.Proofs.YtmchcjaomcdbmaaGreat.Abs
open Go Go.RowKit Go.ChangeShapes Go.WideShapes Go.ChangeAt
variable {P:Program}
inductive TK where
 | b
 | i (k:IntKind)
 | s (ks:List TK)
def TK.wt:TK→Nat
 | .b=>1
 | .i k=>k.bits/8
 | .s _=>8
def wts:List TK→Nat
 | []=>0
 | k::ks=>k.wt+wts ks
def Xdn (P:Program) (F:TypeId→Option (List TK)):List Field→Nat→Option (List TK)
 | [],_=>some []
 | f::fs,at_=>match decide (f.offset=at_),F f.type with
  | true,some ks=>match decide (P.cellsOf f.type=ks.length) with
   | true=>(Xdn P F fs (at_+ks.length)).map (ks++ ·)
   | false=>none
  | _,_=>none
def XcH (P:Program):Nat→TypeId→Option (List TK)
 | 0=>fun _=>none
 | d+1=>fun t=>match P.underlying t with
  | some .bool=>some [.b]
  | some (.int k)=>some [.i k]
  | some (.struct fs)=>Xdn P (XcH P d) fs.toList 0
  | some (.array n e)=>match XcH P d e with
   | some ks=>match decide (P.cellsOf e=ks.length) with
    | true=>some (List.replicate n ks).flatten
    | false=>none
   | none=>none
  | some (.slice e)=>match XcH P d e with
   | some ks=>match decide (P.cellsOf e=ks.length),decide (0<ks.length),decide (0<P.bytesOf e∧wts ks≤P.bytesOf e) with
    | true,true,true=>some [.s ks]
    | _,_,_=>none
   | none=>none
  | _=>none
mutual
def Zfr (g:G):TK→Value→Prop
 | .b,v=> ∃b,v= .bool b
 | .i k,v=> ∃n,v= .int k n∧(Lit.int k n).wf=true
 | .s ks,v=> ∃els:List (List Value),Rd g v ks.length els.length els.flatten∧(∀a m c,v= .slice a m c→(c<LC∧c*wts ks≤reachBytes)∧m≤c)∧ ∀c∈els,RepL g ks c
def RepL (g:G):List TK→List Value→Prop
 | [],cs=>cs=[]
 | k::ks,cs=> ∃v r,cs=v::r∧Zfr g k v∧RepL g ks r
end
theorem RepL.len {g:G}: ∀{ks:List TK} {cs:List Value},RepL g ks cs→cs.length=ks.length
 | [],cs,h=>by unfold RepL at h;subst h;rfl
 | k::ks,cs,h=>by unfold RepL at h;obtain ⟨v,r,rfl,_,h⟩:=h;simp [RepL.len h]
theorem RepL.append {g:G}: ∀{a b:List TK} {cs ds:List Value},RepL g a cs→RepL g b ds→RepL g (a++b) (cs++ds)
 | [],b,cs,ds,h,k=>by unfold RepL at h;subst h;simpa using k
 | x::a,b,cs,ds,h,k=>by
  unfold RepL at h
  obtain ⟨v,r,rfl,h1,h2⟩:=h
  show RepL g (x::(a++b)) (v::(r++ds))
  unfold RepL
  exact ⟨v,_,rfl,h1,RepL.append h2 k⟩
def Zd9 (w:World) (μ:Mu) (e:Ent):Prop:= ∀cs,e.2=some cs→ ∃cells elem fz,w.heap[e.1.b]? =some (.cells cells elem fz)∧ ∀(i:Nat) (v:Value),cs[i]? =some v→ ∃v',cells[e.1.s+i]? =some v'∧VR μ v v'
theorem ZfU {w:World} {es:List Ent} (h: ∀e∈es,Zd9 w (JeD es) e):Sim (JeD es) (gOf es) es.length w w.heap.size:=by
 refine ⟨?_,?_,?_,?_,Nat.le_refl _⟩
 ·intro l m hm
  unfold JeD at hm
  rcases Nat.lt_or_ge l es.length with h|h
  ·exact h
  ·rw [List.getElem?_eq_none h] at hm;cases hm
 ·intro l hl
  unfold gOf
  rw [List.getElem?_eq_none hl]
 ·intro l b m hb hm
  unfold gOf at hb
  unfold JeD at hm
  split at hb
  ·rename_i pl cs he
   rw [he] at hm
   simp at hm hb
   subst hm;subst hb
   obtain ⟨cells,elem,fz,h1,h2⟩:=h _ (List.mem_of_getElem? he) cs rfl
   exact ⟨cells,elem,fz,h1,h2,(Array.getElem?_eq_some_iff.1 h1).1⟩
  ·cases hb
 ·intro l l' b b' m m' hb _ hr
  unfold gOf at hb
  split at hb
  ·simp at hb;subst hb;simp [Blk.rw] at hr
  ·cases hb
def Got (w:World) (ks:List TK) (cs:List Value):Prop:=
 ∀l0:Nat,∃(ents:List Ent) (acs:List Value),∀pre post:List Ent,pre.length=l0→
  VRs (JeD (pre++ents++post)) acs cs∧RepL (gOf (pre++ents++post)) ks acs∧ ∀e∈ents,Zd9 w (JeD (pre++ents++post)) e
theorem Got.nil {w:World}:Got w [] []:=fun _=>⟨[],[],fun _ _ _=>⟨.nil,rfl,by simp⟩⟩
theorem Got.append {w:World} {k1 k2:List TK} {c1 c2:List Value} (h1:Got w k1 c1) (h2:Got w k2 c2):Got w (k1++k2) (c1++c2):=by
 intro l0
 obtain ⟨e1,a1,h1⟩:=h1 l0
 obtain ⟨e2,a2,h2⟩:=h2 (l0+e1.length)
 refine ⟨e1++e2,a1++a2,fun pre post hp=> ?_⟩
 obtain ⟨v1,r1,o1⟩:=h1 pre (e2++post) hp
 obtain ⟨v2,r2,o2⟩:=h2 (pre++e1) post (by rw [List.length_append,hp])
 have q1:pre++e1++(e2++post)=pre++(e1++e2)++post:=by simp [List.append_assoc]
 have q2:pre++e1++e2++post=pre++(e1++e2)++post:=by simp [List.append_assoc]
 rw [q1] at v1 r1 o1
 rw [q2] at v2 r2 o2
 refine ⟨v1.append v2,r1.append r2,fun e he=> ?_⟩
 rcases List.mem_append.1 he with h|h
 ·exact o1 e h
 ·exact o2 e h
theorem Got.split {w:World} {k1 k2:List TK} {cs:List Value} (h1:Got w k1 (cs.take k1.length)) (h2:Got w k2 (cs.drop k1.length)):Got w (k1++k2) cs:=by
 have:=h1.append h2
 rwa [List.take_append_drop] at this
theorem Got.each {w:World} {ks:List TK}: ∀(els:List (List Value)),(∀c∈els,Got w ks c)→ ∀l0:Nat,∃(ents:List Ent) (as:List (List Value)),as.length=els.length∧ ∀pre post:List Ent,pre.length=l0→
  VRs (JeD (pre++ents++post)) as.flatten els.flatten∧(∀a∈as,RepL (gOf (pre++ents++post)) ks a)∧ ∀e∈ents,Zd9 w (JeD (pre++ents++post)) e
 | [],_,l0=>⟨[],[],rfl,fun _ _ _=>⟨.nil,by simp,by simp⟩⟩
 | c::els,h,l0=>by
  obtain ⟨e1,a1,h1⟩:=h c (by simp) l0
  obtain ⟨e2,as,hl,h2⟩:=Got.each els (fun c hc=>h c (by simp [hc])) (l0+e1.length)
  refine ⟨e1++e2,a1::as,by simp [hl],fun pre post hp=> ?_⟩
  obtain ⟨v1,r1,o1⟩:=h1 pre (e2++post) hp
  obtain ⟨v2,r2,o2⟩:=h2 (pre++e1) post (by rw [List.length_append,hp])
  have q1:pre++e1++(e2++post)=pre++(e1++e2)++post:=by simp [List.append_assoc]
  have q2:pre++e1++e2++post=pre++(e1++e2)++post:=by simp [List.append_assoc]
  rw [q1] at v1 r1 o1
  rw [q2] at v2 r2 o2
  refine ⟨v1.append v2,fun a ha=> ?_,fun e he=> ?_⟩
  ·rcases List.mem_cons.1 ha with rfl|ha
   ·exact r1
   ·exact r2 a ha
  ·rcases List.mem_append.1 he with h|h
   ·exact o1 e h
   ·exact o2 e h
theorem Xgs {z:Nat}: ∀(l:List (List Value)),(∀c∈l,c.length=z)→l.flatten.length=l.length*z
 | [],_=>by simp
 | c::l,h=>by simp [Xgs l (fun c hc=>h c (by simp [hc])),h c (by simp),Nat.add_mul];omega
theorem Got.slice {w:World} {base:Nat} {a:Addr} {len cap:Nat} {ks:List TK} {els:List (List Value)} (hz:0<ks.length) (hl:len≤cap) (hlen:els.length=cap) (hcap:cap<LC∧cap*wts ks≤reachBytes)
  (hel: ∀(i:Nat) (c:List Value),els[i]? =some c→Got w ks c∧w.cells? base (a.add (i*ks.length)) ks.length=some c):Got w [.s ks] [.slice (some a) len cap]:=by
 intro l0
 have hcl: ∀c∈els,c.length=ks.length:=fun c hc=>by
  obtain ⟨i,hi⟩:=List.getElem?_of_mem hc
  exact (Zbn (hel i c hi).2).1
 by_cases h0:cap=0
 ·subst h0
  obtain rfl:len=0:=by omega
  refine ⟨[(⟨0,0,0,0⟩,none)],[.slice (some ⟨l0,0,none⟩) 0 0],fun pre post hp=>⟨?_,?_,fun e he cs h=> ?_⟩⟩
  ·refine .cons (.slx (m:=⟨0,0,0,0⟩) 0 0 0 a (by decide) (Nat.le_refl _) ?_ (.inr rfl)) .nil
   simp [JeD,←hp]
  ·unfold RepL
   refine ⟨_,[],rfl,?_,rfl⟩
   unfold Zfr
   exact ⟨[],⟨_,_,rfl,by simp,.inr ⟨l0,0,rfl⟩,fun h=>absurd h (by simp)⟩,fun a m c h=>by cases h;exact ⟨⟨by decide,by rw [Nat.zero_mul];exact Nat.zero_le _⟩,Nat.le_refl _⟩,by simp⟩
  ·simp at he;subst he;cases h
 ·obtain ⟨ents,as,hal,hg⟩:=Got.each els (fun c hc=>by obtain ⟨i,hi⟩:=List.getElem?_of_mem hc;exact (hel i c hi).1) l0
  have hc0: ∃c,els[0]? =some c:=⟨els[0]'(by omega),List.getElem?_eq_getElem (by omega)⟩
  obtain ⟨c0,hc0⟩:=hc0
  obtain ⟨_,hcs0⟩:=hel 0 c0 hc0
  have hcell0:=(Zbn hcs0).2 0 hz
  have hl0:=(Zbn hcs0).1
  rw [List.getElem?_eq_getElem (by omega)] at hcell0
  obtain ⟨hspot,cells,elem,fz,hh,_⟩:=Zcs hcell0
  have hspot:a.spot=none:=by simpa [Addr.add] using hspot
  have hh:w.heap[a.block]? =some (.cells cells elem fz):=by simpa [Addr.add] using hh
  have hall: ∀(i:Nat) (v:Value),els.flatten[i]? =some v→cells[a.off+i]? =some v:=by
   intro i v hv
   obtain ⟨c,h1,h2⟩:=ZdW hcl hz i v hv
   obtain ⟨hok,hcs⟩:=hel _ c h1
   have hj:=(Zbn hcs).2 (i%ks.length) (Nat.mod_lt _ hz)
   rw [h2] at hj
   obtain ⟨_,cells',elem',fz',hh',hv'⟩:=Zcs hj
   have hb:(Addr.add (Addr.add a (i/ks.length*ks.length)) (i%ks.length)).block=a.block:=by rw [XcT,XcT]
   have ho:(Addr.add (Addr.add a (i/ks.length*ks.length)) (i%ks.length)).off=a.off+i:=by
    have hx:(Addr.add (Addr.add a (i/ks.length*ks.length)) (i%ks.length)).off=a.off+i/ks.length*ks.length+i%ks.length:=by rw [Jd0,Jd0]
    rw [hx]
    have:=Nat.div_add_mod i ks.length
    rw [Nat.mul_comm] at this
    omega
   rw [hb,hh] at hh'
   cases hh'
   rw [ho] at hv'
   exact hv'
  refine ⟨ents++[(⟨a.block,a.off,0,0⟩,some as.flatten)],[.slice (some ⟨l0+ents.length,0,none⟩) len cap],fun pre post hp=> ?_⟩
  have q:pre++ents++([((⟨a.block,a.off,0,0⟩,some as.flatten):Ent)]++post)=pre++(ents++[(⟨a.block,a.off,0,0⟩,some as.flatten)])++post:=by simp [List.append_assoc]
  obtain ⟨v1,r1,o1⟩:=hg pre ([(⟨a.block,a.off,0,0⟩,some as.flatten)]++post) hp
  rw [q] at v1 r1 o1
  generalize hes:pre++(ents++[((⟨a.block,a.off,0,0⟩,some as.flatten):Ent)])++post=es at v1 r1 o1 ⊢
  have hme:es[l0+ents.length]? =some (⟨a.block,a.off,0,0⟩,some as.flatten):=by
   rw [←hes,←q,←hp,←List.length_append,List.getElem?_append_right (Nat.le_refl _)];simp
  have hasl: ∀x∈as,x.length=ks.length:=fun x hx=>(r1 x hx).len
  refine ⟨.cons ?_ .nil,?_,fun e he=> ?_⟩
  ·refine .slx (m:=⟨a.block,a.off,0,0⟩) 0 len cap a hcap.1 hl (by simp [JeD,hme]) (.inl ?_)
   cases a;simp at hspot;subst hspot;rfl
  ·unfold RepL
   refine ⟨_,[],rfl,?_,rfl⟩
   unfold Zfr
   have htl:(as.take len).length=len:=by rw [List.length_take];omega
   refine ⟨as.take len,?_,fun a m c h=>by cases h;exact ⟨hcap,hl⟩,fun c hc=>r1 c (List.mem_of_mem_take hc)⟩
   rw [htl]
   refine ⟨_,_,rfl,?_,.inr ⟨_,0,rfl⟩,fun _=>⟨l0+ents.length,0,as.flatten,.ro,rfl,by simp [gOf,hme],?_,?_⟩⟩
   ·rw [Xgs _ (fun c hc=>hasl c (List.mem_of_mem_take hc)),htl]
   ·rw [Xgs _ hasl,Nat.zero_add];exact Nat.mul_le_mul_right _ (by omega)
   ·rw [List.drop_zero]
    have e:as.flatten=(as.take len).flatten++(as.drop len).flatten:=by rw [←List.flatten_append,List.take_append_drop]
    have hlt:(as.take len).flatten.length=len*ks.length:=by rw [Xgs _ (fun c hc=>hasl c (List.mem_of_mem_take hc)),htl]
    rw [e,←hlt,List.take_left]
  ·rcases List.mem_append.1 he with h|h
   ·exact o1 e h
   ·simp at h;subst h
    intro cs hcs
    cases hcs
    refine ⟨cells,elem,fz,hh,fun i v hv=> ?_⟩
    obtain ⟨v',hv',hr⟩:=v1.get i v hv
    exact ⟨v',hall i v' hv',hr⟩
section
variable {H:Type} {enc:TypeId×Value→H} {w:World} {base:Nat} {held:Bool}
theorem QdC {F:TypeId→Option (List TK)} {cs:List Value}:
  ∀(fs:List Field) (at_:Nat) (ks:List TK),Xdn P F fs at_=some ks→cs.length=at_+ks.length→(∀f∈fs,∀k,F f.type=some k→P.cellsOf f.type=k.length→Got w k ((cs.drop f.offset).take (P.cellsOf f.type)))→Got w ks (cs.drop at_)
 | [],at_,ks,h,hl,_=>by
  simp [Xdn] at h;subst h
  rw [List.drop_eq_nil_of_le (by simpa using Nat.le_of_eq hl)];exact Got.nil
 | f::fs,at_,ks,h,hl,hx=>by
  unfold Xdn at h
  split at h
  ·rename_i k1 ho hk1
   split at h
   ·rename_i hc
    obtain ⟨k2,h2,rfl⟩:=Option.map_eq_some_iff.1 h
    have ho:f.offset=at_:=of_decide_eq_true ho
    have hc:P.cellsOf f.type=k1.length:=of_decide_eq_true hc
    have o1:=hx f (by simp) k1 hk1 hc
    rw [ho,hc] at o1
    have o2:=QdC fs (at_+k1.length) k2 h2 (by simp at hl;omega) (fun f hf=>hx f (by simp [hf]))
    exact Got.split o1 (by rw [List.drop_drop];exact o2)
   ·cases h
  ·cases h
theorem QeU {k1:List TK} {cs:List Value}: ∀(n s:Nat),(∀i,s≤i→i<s+n→Got w k1 ((cs.drop (i*k1.length)).take k1.length))→cs.length=(s+n)*k1.length→Got w (List.replicate n k1).flatten (cs.drop (s*k1.length))
 | 0,s,_,hl=>by rw [List.drop_eq_nil_of_le (by simpa using Nat.le_of_eq hl)];exact Got.nil
 | n+1,s,h,hl=>by
  have ih:=QeU n (s+1) (fun i h1 h2=>h i (by omega) (by omega)) (by rw [hl];congr 1;omega)
  rw [List.replicate_succ,List.flatten_cons]
  refine Got.split (h s (Nat.le_refl _) (by omega)) ?_
  rw [List.drop_drop]
  rw [Nat.add_mul,Nat.one_mul] at ih
  exact ih
theorem Jau {P:Program} {e:TypeId}: ∀{ds:List (DataW H)} {d:DataW H},d∈ds→ ∀n∈d.weights P e,n∈DataW.weightsAll P e ds
 | x::ds,d,h,n,hn=>by
  simp only [DataW.weightsAll,List.mem_append]
  rcases List.mem_cons.1 h with rfl|h
  ·exact .inl hn
  ·exact .inr (Jau h n hn)
theorem JbR: ∀(d fuel:Nat) (t:TypeId) (ks:List TK) (cs:List Value) (x:DataW H×List MemPlace),XcH P d t=some ks→P.cellsOf t=ks.length→(∀n∈x.1.weights P t,n≤reachBytes)→DataW.trod enc P w base (fun _=>true) held fuel t cs=some x→Got w ks cs
 | 0,_,t,ks,cs,x,hk,_,_,_=>by simp [XcH] at hk
 | d+1,fuel,t,ks,cs,x,hk,hc,hw,hx=>by
  unfold XcH at hk
  split at hk
  ·rename_i hu
   simp at hk;subst hk
   obtain ⟨b,rfl,_⟩:=DataW.trod_bool hu hx
   exact fun _=>⟨[],[.bool b],fun _ _ _=>⟨.cons (.bool b) .nil,⟨_,_,rfl,⟨b,rfl⟩,rfl⟩,by simp⟩⟩
  ·rename_i k hu
   simp at hk;subst hk
   obtain ⟨n,rfl,_,hwf⟩:=DataW.trod_int hu hx
   exact fun _=>⟨[],[.int k n],fun _ _ _=>⟨.cons (.int k n) .nil,⟨_,_,rfl,⟨n,rfl,hwf⟩,rfl⟩,by simp⟩⟩
  ·rename_i fs hu
   obtain ⟨xs,n,rfl,hxe,hl,hxl,hel⟩:=DataW.trod_struct hu hx
   have:=QdC (P:=P) (w:=w) (cs:=cs) (F:=XcH P d) fs.toList 0 ks hk (by rw [hl,hc];simp) (fun f hf k hk1 hc1=>by
    obtain ⟨i,hi⟩:=List.getElem?_of_mem hf
    have hi':fs[i]? =some f:=by simpa using hi
    have hlt:i<fs.size:=(Array.getElem?_eq_some_iff.1 hi').1
    have hxi:xs[i]? =some (xs[i]'(by omega)):=List.getElem?_eq_getElem (by omega)
    refine JbR d n f.type k _ (xs[i]'(by omega)) hk1 hc1 (fun m hm=>hw m ?_) (by rw [hel i f hi',hxi])
    rw [hxe]
    simp only [DataW.weights,hu]
    exact DataW.weights_mem_each (j:=i) (by rw [List.getElem?_map,hi];rfl) (by rw [List.getElem?_map,hxi];rfl) m hm)
   simpa using this
  ·rename_i len e hu
   split at hk
   ·rename_i k1 hk1
    split at hk
    ·rename_i hce
     have hce:P.cellsOf e=k1.length:=of_decide_eq_true hce
     simp at hk;subst hk
     obtain ⟨xs,m,rfl,hxe,hl,hxl,hel⟩:=DataW.trod_array hu hx
     have:=QeU (w:=w) (k1:=k1) (cs:=cs) len 0 (fun i _ hi=>by
      have h1:=hel i (by omega)
      rw [List.getElem?_eq_getElem (by omega)] at h1
      have:=JbR d m e k1 _ _ hk1 hce (fun q hq=>hw q (by
       rw [hxe];simp only [DataW.weights,hu]
       exact Jau (List.mem_map.2 ⟨_,List.getElem_mem _,rfl⟩) q hq)) h1
      rw [hce] at this
      exact this) (by rw [hl,hc];simp)
     simpa using this
    ·cases hk
   ·cases hk
  ·rename_i e hu
   split at hk
   ·rename_i k1 hk1
    split at hk
    ·rename_i hce hz hb
     have hce:P.cellsOf e=k1.length:=of_decide_eq_true hce
     have hz:0<k1.length:=of_decide_eq_true hz
     obtain ⟨hb,hbw⟩:0<P.bytesOf e∧wts k1≤P.bytesOf e:=of_decide_eq_true hb
     simp at hk;subst hk
     rcases DataW.trod_slice hu hx with ⟨rfl,hxe⟩|⟨a,len,cap,elems,rest,n,rfl,rfl,hxe,_,hl,_,hlen,hel,hsp,_⟩
     ·refine fun _=>⟨[],[.slice none 0 0],fun _ _ _=>⟨.cons .nilslice .nil,⟨_,_,rfl,?_,rfl⟩,by simp⟩⟩
      unfold Zfr
      exact ⟨[],Rd.nil _,fun a m c h=>by cases h;exact ⟨⟨by decide,by rw [Nat.zero_mul];exact Nat.zero_le _⟩,Nat.le_refl _⟩,by simp⟩
     ·obtain ⟨hrl,hr⟩:=hsp rfl
      have hwx: ∀n∈(elems.map (·.1)++rest.map (·.1)).flatMap (fun d:DataW H=>d.weights P e),n≤reachBytes:=by
       intro q hq
       refine hw q ?_
       rw [hxe];simp only [DataW.weights,hu]
       obtain ⟨y,hy,hq⟩:=List.mem_flatMap.1 hq
       rcases List.mem_append.1 hy with hy|hy
       ·exact List.mem_cons_of_mem _ (List.mem_append.2 (.inl (Jau hy q hq)))
       ·exact List.mem_cons_of_mem _ (List.mem_append.2 (.inr (Jau hy q hq)))
      have hcap:cap<LC∧cap*wts k1≤reachBytes:=by
       have h1:=hw ((elems.length+rest.length)*P.bytesOf e) (by rw [hxe];simp [DataW.weights,hu])
       rw [show elems.length+rest.length=cap by omega] at h1
       have h2:cap≤cap*P.bytesOf e:=Nat.le_mul_of_pos_right _ hb
       have h3:=reachBytes_lt
       have:LC=2^62:=by decide
       have h4:cap*wts k1≤cap*P.bytesOf e:=Nat.mul_le_mul_left _ hbw
       omega
      have each: ∀i,i<cap→ ∃c,w.cells? base (a.add (i*k1.length)) k1.length=some c∧Got w k1 c:=by
       intro i hi
       have: ∃y,(w.cells? base (a.add (i*P.cellsOf e)) (P.cellsOf e)).bind (DataW.trod enc P w base (fun _=>true) held n e)=some y∧y.1∈(elems.map (·.1)++rest.map (·.1)):=by
        by_cases hil:i<len
        ·exact ⟨elems[i]'(by omega),by rw [hel i hil,List.getElem?_eq_getElem (by omega)],List.mem_append.2 (.inl (List.mem_map.2 ⟨_,List.getElem_mem _,rfl⟩))⟩
        ·have:=hr (i-len) (by omega)
         rw [show len+(i-len)=i by omega] at this
         exact ⟨rest[i-len]'(by omega),by rw [this,List.getElem?_eq_getElem (by omega)],List.mem_append.2 (.inr (List.mem_map.2 ⟨_,List.getElem_mem _,rfl⟩))⟩
       obtain ⟨y,hy,hym⟩:=this
       obtain ⟨c,h1,h2⟩:=Option.bind_eq_some_iff.1 hy
       rw [hce] at h1
       exact ⟨c,h1,JbR d n e k1 c y hk1 hce (fun q hq=>hwx q (List.mem_flatMap.2 ⟨_,hym,hq⟩)) h2⟩
      refine Got.slice (base:=base) (els:=(List.range cap).map fun i=>(w.cells? base (a.add (i*k1.length)) k1.length).getD []) hz hl (by simp) hcap (fun i c hi=> ?_)
      rw [List.getElem?_map] at hi
      by_cases hlt:i<cap
      ·rw [List.getElem?_range hlt] at hi
       obtain ⟨c',h1,h2⟩:=each i hlt
       simp [h1] at hi
       subst hi
       exact ⟨h2,h1⟩
      ·rw [List.getElem?_eq_none (by simp;omega)] at hi
       cases hi
    ·cases hk
   ·cases hk
  ·cases hk
end
end Go.Proofs.YtmchcjaomcdbmaaGreat.Abs
namespace Go.Proofs.YtmchcjaomcdbmaaGreat.Abs
open Go Go.RowKit Go.ChangeShapes Go.WideShapes Go.ChangeAt
variable {P:Program}
abbrev AK:=Bool×List TK
def ZgF (g:G) (k:AK) (v:Value):Prop:=match k.1 with
 | true=> ∃cs:List Value,v= .agg cs.toArray∧RepL g k.2 cs
 | false=>RepL g k.2 [v]
inductive XdV (g:G):List AK→List Value→Prop
 | nil:XdV g [] []
 | cons {k:AK} {v:Value} {ks:List AK} {vs:List Value}:ZgF g k v→XdV g ks vs→XdV g (k::ks) (v::vs)
def Zgt (w:World) (k:AK) (v:Value):Prop:=Got w k.2 v.cells.toList∧match k.1 with
 | true=> ∃xs:Array Value,v= .agg xs
 | false=>v.cells.toList=[v]
inductive QeK (w:World):List AK→List Value→Prop
 | nil:QeK w [] []
 | cons {k:AK} {v:Value} {ks:List AK} {vs:List Value}:Zgt w k v→QeK w ks vs→QeK w (k::ks) (v::vs)
theorem XeW {μ:Mu} {as:List Value} {x:Value} (h:VRs μ as [x]): ∃a,as=[a]∧VR μ a x:=by
 cases h with
 | cons h1 h2=>cases h2;exact ⟨_,rfl,h1⟩
theorem Zed {w:World}: ∀{ks:List AK} {vs:List Value},QeK w ks vs→ ∀l0:Nat,∃(ents:List Ent) (avs:List Value),∀pre post:List Ent,pre.length=l0→
  VRs (JeD (pre++ents++post)) avs vs∧XdV (gOf (pre++ents++post)) ks avs∧ ∀e∈ents,Zd9 w (JeD (pre++ents++post)) e
 | _,_,.nil,l0=>⟨[],[],fun _ _ _=>⟨.nil,.nil,by simp⟩⟩
 | _,_,.cons (k:=k) (v:=v) hv hvs,l0=>by
  obtain ⟨e1,a1,h1⟩:=hv.1 l0
  obtain ⟨e2,a2,h2⟩:=Zed hvs (l0+e1.length)
  have hk:=hv.2
  refine ⟨e1++e2,(match k.1 with|true=>Value.agg a1.toArray|false=>a1.headD undef)::a2,fun pre post hp=> ?_⟩
  obtain ⟨v1,r1,o1⟩:=h1 pre (e2++post) hp
  obtain ⟨v2,r2,o2⟩:=h2 (pre++e1) post (by rw [List.length_append,hp])
  have q1:pre++e1++(e2++post)=pre++(e1++e2)++post:=by simp [List.append_assoc]
  have q2:pre++e1++e2++post=pre++(e1++e2)++post:=by simp [List.append_assoc]
  rw [q1] at v1 r1 o1
  rw [q2] at v2 r2 o2
  refine ⟨.cons ?_ v2,.cons ?_ r2,fun e he=> ?_⟩
  ·cases hb:k.1 with
   | true=>
    rw [hb] at hk
    obtain ⟨xs,rfl⟩:=hk
    have:xs=xs.toList.toArray:=by simp
    rw [this]
    exact VRs.agg (by simpa [Value.cells] using v1)
   | false=>
    rw [hb] at hk
    rw [hk] at v1
    obtain ⟨a,rfl,hr⟩:=XeW v1
    exact hr
  ·unfold ZgF
   cases hb:k.1 with
   | true=>exact ⟨a1,rfl,r1⟩
   | false=>
    rw [hb] at hk
    rw [hk] at v1
    obtain ⟨a,rfl,hr⟩:=XeW v1
    exact r1
  ·rcases List.mem_append.1 he with h|h
   ·exact o1 e h
   ·exact o2 e h
section
variable {H:Type} {enc:TypeId×Value→H} {w:World} {base:Nat} {held:Bool}
theorem QgE {ts:List TypeId} {ds:List (DataW H)} {j d:Nat} {t:TypeId} {ks:List TK} {b:Bool} {v:Value} {dd:DataW H} {p:List MemPlace} (hk:XcH P d t=some ks) (hc:P.cellsOf t=ks.length)
  (hb:match b with|true=> ∃xs:Array Value,v= .agg xs|false=>v.cells.toList=[v]) (h:DataW.Trod enc P w base (fun _=>true) held t v dd p)
  (hsz:(DataW.weightsEach P ts ds).all (· ≤reachBytes)=true) (htj:ts[j]? =some t) (hdj:ds[j]? =some dd):Zgt w (b,ks) v:=by
 obtain ⟨fuel,hf⟩:=h
 refine ⟨JbR d fuel t ks _ _ hk hc (fun n hn=> ?_) hf,hb⟩
 have:=List.all_eq_true.1 hsz n (DataW.weights_mem_each htj hdj n hn)
 simpa using this
end
theorem Xes {v:Value} (h: ∃a len cap,v= .slice a len cap):v.cells.toList=[v]:=by obtain ⟨a,len,cap,rfl⟩:=h;simp [Value.cells]
theorem QdI (hm:P.follows .mixedOrders=true) {X:XT} (hX:Jcl P X) {f:FuncId} {fn:Func} {cargs:Array Value} {w:World} {ks:List AK} (hf:P.funcs[f]? =some fn) (hb:fn.body.isSome=true) (hn:(fn.name== "runtime.NumGoroutine")=false)
  (hg:QeK w ks cargs.toList) (h: ∀(g:G) (n:Nat) (args:List Value),XdV g ks args→ ∀K:Cont,(∀g' n',K (.bool true) g' n')→ACalls P X f args g n K):
  Calls P f cargs w fun e w'=>e= .returned (.bool true)∧Below w.heap.size w w':=by
 obtain ⟨ents,avs,ha⟩:=Zed hg 0
 obtain ⟨h1,h2,h3⟩:=ha [] [] rfl
 simp only [List.nil_append,List.append_nil] at h1 h2 h3
 refine Calls.mono (Jcr (JcD hm) hX hf hb hn (ZfU h3) h1 (h _ _ _ h2 (fun v _ _=>v= .bool true) fun _ _=>rfl)) fun e w' he=> ?_
 cases e with
 | returned v'=>
  obtain ⟨v,g,n,μ',hk,hvr,_,_,hbel⟩:=he
  subst hk
  cases hvr
  exact ⟨rfl,hbel⟩
 | panicked c=>exact he.elim
 | outgrown=>exact he.elim
theorem Zcc {g:G} {k:IntKind} {ks:List TK} {cs:List Value} (h:RepL g (.i k::ks) cs): ∃a r,cs= .int k a::r∧(Lit.int k a).wf=true∧RepL g ks r:=by
 unfold RepL at h;obtain ⟨v,r,rfl,h1,h⟩:=h;unfold Zfr at h1;obtain ⟨a,rfl,hw⟩:=h1;exact ⟨a,r,rfl,hw,h⟩
theorem Qgz {g:G} {k ks:List TK} {cs:List Value} (h:RepL g (.s k::ks) cs): ∃v r,cs=v::r∧Zfr g (.s k) v∧RepL g ks r:=by
 unfold RepL at h;obtain ⟨v,r,rfl,h1,h⟩:=h;exact ⟨v,r,rfl,h1,h⟩
theorem XdO {g:G} {cs:List Value} (h:RepL g [] cs):cs=[]:=by unfold RepL at h;exact h
def SlR {α:Type} (R:G→List Value→α→Prop) (z:Nat) (g:G) (v:Value) (xs:List α):Prop:=
 ∃els:List (List Value),Rd g v z xs.length els.flatten∧els.length=xs.length∧(∀(i:Nat) (c:List Value) (x:α),els[i]? =some c→xs[i]? =some x→c.length=z∧R g c x)
theorem ZcC {α:Type} {R:List Value→α→Prop}: ∀(els:List (List Value)),(∀c∈els,∃x,R c x)→ ∃xs:List α,els.length=xs.length∧ ∀(i:Nat) (c:List Value) (x:α),els[i]? =some c→xs[i]? =some x→R c x
 | [],_=>⟨[],rfl,by simp⟩
 | c::els,h=>by
  obtain ⟨x,hx⟩:=h c (by simp)
  obtain ⟨xs,hl,hr⟩:=ZcC els (fun c hc=>h c (by simp [hc]))
  refine ⟨x::xs,by simp [hl],fun i c' x' h1 h2=> ?_⟩
  cases i with
  | zero=>simp at h1 h2;subst h1;subst h2;exact hx
  | succ i=>exact hr i c' x' (by simpa using h1) (by simpa using h2)
theorem Jf8 {α:Type} {R:G→List Value→α→Prop} {g:G} {ks:List TK} {v:Value} (dec: ∀c,RepL g ks c→ ∃x,R g c x) (h:Zfr g (.s ks) v): ∃xs:List α,SlR R ks.length g v xs∧ ∀a m c,v= .slice a m c→c<LC∧m≤c:=by
 unfold Zfr at h
 obtain ⟨els,h1,h2,h3⟩:=h
 obtain ⟨xs,hl,hr⟩:=ZcC els (fun c hc=>dec c (h3 c hc))
 exact ⟨xs,⟨els,by rw [←hl];exact h1,hl,fun i c x hi hx=>⟨(h3 c (List.mem_of_getElem? hi)).len,hr i c x hi hx⟩⟩,fun a m c e=>⟨(h2 a m c e).1.1,(h2 a m c e).2⟩⟩
theorem Qgi {α:Type} {enc:α→List Value} {g:G} {ks:List TK} {v:Value} (dec: ∀c,RepL g ks c→ ∃x,c=enc x) (h:Zfr g (.s ks) v): ∃xs:List α,Sl enc ks.length g v xs∧ ∀a m c,v= .slice a m c→c<LC∧m≤c:=by
 obtain ⟨xs,⟨els,h1,h2,h3⟩,h4⟩:=Jf8 (R:=fun _ c x=>c=enc x) dec h
 refine ⟨xs,?_,h4⟩
 have:els=xs.map enc:=by
  apply List.ext_getElem?
  intro i
  rw [List.getElem?_map]
  cases hx:xs[i]? with
  | none=>
   have:xs.length≤i:=by simpa using hx
   rw [List.getElem?_eq_none (by omega)];rfl
  | some x=>
   have hi:i<xs.length:=by rcases Nat.lt_or_ge i xs.length with h|h;exact h;rw [List.getElem?_eq_none h] at hx;cases hx
   have hc:els[i]? =some (els[i]'(by omega)):=List.getElem?_eq_getElem (by omega)
   rw [hc,(h3 i _ x hc hx).2];rfl
 subst this
 exact h1
end Go.Proofs.YtmchcjaomcdbmaaGreat.Abs
