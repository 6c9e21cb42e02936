import Derived.ChangeOld
import Derived.Laws.LoneSync
import Derived.OpenShut
import Derived.ProofKit
import Derived.ShutString
import Derived.SizedLaws
import Derived.WalkKit
import Derived.Test.YtmchcjaomcdbmaaGreatAbsB
/- An evaluator for closed runs, sound for the machine; how arguments come in. -/
set_option linter.all false
set_option linter.deprecated false
namespace Go.Proofs.YtmchcjaomcdbmaaGreat.Abs
open Go Go.RowKit
def Qbd (n:Nat) (k:Nat→Bool):Bool:=match n with
 | 0=>k 0
 | m+1=>k (m+1)
def Zdm (i:Int) (k:Int→Bool):Bool:=match i with
 | .ofNat n=>Qbd n fun n=>k (.ofNat n)
 | .negSucc n=>Qbd n fun n=>k (.negSucc n)
def fB (b:Bool) (k:Bool→Bool):Bool:=match b with
 | true=>k true
 | false=>k false
def fV (v:Value) (k:Value→Bool):Bool:=match v with
 | .int kd i=>k (.int kd i)
 | .bool b=>k (.bool b)
 | .pointer a=>k (.pointer a)
 | .slice a m c=>k (.slice a m c)
 | v=>k v
def fVd (v:Value) (k:Value→Bool):Bool:=match v with
 | .int kd i=>Zdm i fun i=>k (.int kd i)
 | .bool b=>fB b fun b=>k (.bool b)
 | .pointer (some ⟨l,o,none⟩)=>Qbd l fun l=>Qbd o fun o=>k (.pointer (some ⟨l,o,none⟩))
 | .slice (some ⟨l,o,none⟩) m c=>Qbd l fun l=>Qbd o fun o=>Qbd m fun m=>Qbd c fun c=>k (.slice (some ⟨l,o,none⟩) m c)
 | v=>k v
def fL:List Value→(List Value→Bool)→Bool
 | [],k=>k []
 | v::l,k=>fL l fun l=>k (v::l)
theorem ZI (n:Nat) (k:Nat→Bool):Qbd n k=k n:=by cases n<;>rfl
theorem Xb5 (n:Int) (k:Int→Bool):Zdm n k=k n:=by cases n<;>simp [Zdm,ZI]
theorem ZfG (n:Bool) (k:Bool→Bool):fB n k=k n:=by cases n<;>rfl
theorem JcN (v:Value) (k:Value→Bool):fV v k=k v:=by
 unfold fV;split<;>rfl
theorem Zfq (v:Value) (k:Value→Bool):fVd v k=k v:=by
 unfold fVd;split<;>simp [ZI,Xb5,ZfG]
theorem JcP: ∀(l:List Value) (k:List Value→Bool),fL l k=k l
 | [],_=>rfl
 | v::l,k=>by simp only [fL];rw [JcP l]
inductive Tr where
 | nil
 | node (l:Tr) (b:Option Blk) (r:Tr)
def Tr.get:Tr→Nat→Option Blk
 | .nil,_=>none
 | .node l b r,i=>match Nat.beq i 0 with
  | true=>b
  | false=>match Nat.beq (i%2) 1 with
   | true=>l.get ((i-1)/2)
   | false=>r.get ((i-2)/2)
def Tr.setK:Nat→Tr→Nat→Option Blk→(Tr→Bool)→Bool
 | 0,_,_,_,_=>false
 | d+1,t,i,b,k=>match t with
  | .nil=>(match Nat.beq i 0 with
   | true=>k (.node .nil b .nil)
   | false=>match Nat.beq (i%2) 1 with
    | true=>Qbd ((i-1)/2) fun j=>setK d .nil j b fun l=>k (.node l none .nil)
    | false=>Qbd ((i-2)/2) fun j=>setK d .nil j b fun r=>k (.node .nil none r))
  | .node l b0 r=>match Nat.beq i 0 with
   | true=>k (.node l b r)
   | false=>match Nat.beq (i%2) 1 with
    | true=>Qbd ((i-1)/2) fun j=>setK d l j b fun l=>k (.node l b0 r)
    | false=>Qbd ((i-2)/2) fun j=>setK d r j b fun r=>k (.node l b0 r)
theorem QeM (a b:Nat):Nat.beq a b=decide (a=b):=by
 cases hb:Nat.beq a b with
 | true=>simp [Nat.eq_of_beq_eq_true hb]
 | false=>simp [Nat.ne_of_beq_eq_false hb]
theorem Tr.setK_s: ∀(d:Nat) (t:Tr) (i:Nat) (b:Option Blk) (k:Tr→Bool),t.setK d i b k=true→ ∃t':Tr,t'.get=upd t.get i b∧k t'=true
 | 0,_,_,_,_,h=>by simp [setK] at h
 | d+1,t,i,b,k,h=>by
  have key: ∀(l:Tr) (b0:Option Blk) (r:Tr),(match Nat.beq i 0 with
   | true=>k (.node l b r)
   | false=>match Nat.beq (i%2) 1 with
    | true=>Qbd ((i-1)/2) fun j=>setK d l j b fun l=>k (.node l b0 r)
    | false=>Qbd ((i-2)/2) fun j=>setK d r j b fun r=>k (.node l b0 r))=true→ ∃t':Tr,t'.get=upd (Tr.node l b0 r).get i b∧k t'=true:=by
   clear h
   intro l b0 r h
   simp only [ZI,QeM] at h
   split at h
   ·rename_i h0
    have h0:i=0:=by simpa using h0
    subst h0
    refine ⟨_,?_,h⟩
    funext j
    by_cases hj:j=0
    ·subst hj;rw [Xa];rfl
    ·rw [Xc _ _ hj];simp only [Tr.get,QeM,decide_eq_false hj]
   ·rename_i h0
    have h0:i≠0:=by simpa using h0
    split at h
    ·rename_i h1
     have h1:i%2=1:=by simpa using h1
     obtain ⟨t',ht,hk⟩:=setK_s d _ _ _ _ h
     refine ⟨_,?_,hk⟩
     funext j
     by_cases hj:j=i
     ·subst hj;rw [Xa];simp only [Tr.get,QeM,decide_eq_false h0,h1,decide_true,ht,Xa]
     ·rw [Xc _ _ hj]
      simp only [Tr.get,QeM]
      by_cases j0:j=0
      ·simp [j0]
      ·simp only [decide_eq_false j0]
       by_cases j1:j%2=1
       ·simp only [decide_eq_true j1,ht]
        rw [Xc];omega
       ·simp only [decide_eq_false j1]
    ·rename_i h1
     have h1: ¬i%2=1:=by simpa using h1
     obtain ⟨t',ht,hk⟩:=setK_s d _ _ _ _ h
     refine ⟨_,?_,hk⟩
     funext j
     by_cases hj:j=i
     ·subst hj;rw [Xa];simp only [Tr.get,QeM,decide_eq_false h0,decide_eq_false h1,ht,Xa]
     ·rw [Xc _ _ hj]
      simp only [Tr.get,QeM]
      by_cases j0:j=0
      ·simp [j0]
      ·simp only [decide_eq_false j0]
       by_cases j1:j%2=1
       ·simp only [decide_eq_true j1]
       ·simp only [decide_eq_false j1,ht]
        rw [Xc];omega
  cases t with
  | nil=>
   obtain ⟨t',h1,h2⟩:=key .nil none .nil h
   refine ⟨t',?_,h2⟩
   rw [h1]
   congr 1
   funext j
   simp only [Tr.get]
   split<;>first|rfl|(split<;>rfl)
  | node l b0 r=>exact key l b0 r h
def XcP (t:List Value):Env:=fun i=>t.getD i undef
def Qfu:List Value→Nat→Value→(List Value→Bool)→Bool
 | [],_,_,_=>false
 | _::l,0,v,k=>k (v::l)
 | x::l,i+1,v,k=>Qfu l i v fun l=>k (x::l)
theorem Xe9: ∀(t:List Value) (i:Nat) (v:Value) (k:List Value→Bool),Qfu t i v k=true→i<t.length∧k (t.set i v)=true
 | [],_,_,_,h=>by simp [Qfu] at h
 | _::l,0,v,k,h=>⟨by simp,h⟩
 | x::l,i+1,v,k,h=>by
  obtain ⟨h1,h2⟩:=Xe9 l i v _ h
  exact ⟨by simp;omega,h2⟩
theorem JfG (t:List Value) (i:Nat) (v:Value) (hi:i<t.length):XcP (t.set i v)=put (XcP t) (some i) v:=by
 funext j
 simp only [XcP,put,List.getD_eq_getElem?_getD,List.getElem?_set]
 by_cases h:i=j
 ·subst h;simp [hi]
 ·rw [if_neg h,if_neg (fun e=>h e.symm)]
def QfW (t:List Value) (d:Option Tmp) (v:Value) (k:List Value→Bool):Bool:=match d with
 | some i=>Qfu t i v k
 | none=>k t
theorem Qgv {t:List Value} {d:Option Tmp} {v:Value} {k:List Value→Bool} (h:QfW t d v k=true): ∃t',XcP t'=put (XcP t) d v∧t'.length=t.length∧k t'=true:=by
 cases d with
 | none=>exact ⟨t,rfl,rfl,h⟩
 | some i=>
  obtain ⟨h1,h2⟩:=Xe9 _ _ _ _ h
  exact ⟨_,JfG _ _ _ h1,by simp,h2⟩
end Go.Proofs.YtmchcjaomcdbmaaGreat.Abs
namespace Go.Proofs.YtmchcjaomcdbmaaGreat.Abs
open Go Go.RowKit
variable {P:Program}
abbrev EK1:=Value→Bool
abbrev EC:=Value→Tr→Nat→Bool
def Xav:List UInt8→List UInt8→Bool
 | [],[]=>true
 | x::xs,y::ys=>Nat.beq x.toNat y.toNat&&Xav xs ys
 | _,_=>false
theorem JbF: ∀{a b:List UInt8},Xav a b=true→a=b
 | [],[],_=>rfl
 | x::xs,y::ys,h=>by
  simp only [Xav,QeM,Bool.and_eq_true,decide_eq_true_eq] at h
  rw [UInt8.toNat_inj.1 h.1,JbF h.2]
 | [],_::_,h=>by cases h
 | _::_,[],h=>by cases h
theorem ZcE: ∀(a:List UInt8),Xav a a=true
 | []=>rfl
 | x::xs=>by simp only [Xav,QeM,decide_true,Bool.true_and];exact ZcE xs
def JfU (v:Value) (k:Bool→Bool):Bool:=match v with| .bool b=>k b|_=>false
def ZfO (v:Value) (k:Int→Bool):Bool:=match v with| .int _ i=>k i|_=>false
def Jf6 (v:Value) (k:Nat→Nat→Bool):Bool:=match v with| .pointer (some ⟨l,o,none⟩)=>k l o|_=>false
def Jf7 (v:Value) (k:List Value→Bool):Bool:=match v with| .agg cs=>k cs.toList|_=>false
def ZcG (h:Tr) (l:Nat) (k:List Value→BK→Bool):Bool:=match h.get l with|some (.cells cs b)=>k cs b|_=>false
def Qgj (cs:List Value) (o:Nat) (k:EK1):Bool:=match cs[o]? with|some v=>k v|none=>false
def eLd (h:Tr) (l o:Nat) (k:EK1):Bool:=ZcG h l fun cs _=>Qgj cs o k
def Zgy (h:Tr) (l o z:Nat) (k:List Value→Bool):Bool:=ZcG h l fun cs _=>decide (o+z≤cs.length)&&fL ((cs.drop o).take z) k
def eNew (cs:List Value) (b:BK) (h:Tr) (n:Nat) (k:Nat→Tr→Nat→Bool):Bool:=fL cs fun cs=>Qbd (n+1) fun m=>h.setK 20 n (some (.cells cs b)) fun h=>k n h m
def eSt (h:Tr) (l o:Nat) (v:Value) (k:Tr→Bool):Bool:=ZcG h l fun cs b=>b.rw&&(decide (o<cs.length)&&(isCell v&&fL (cs.set o v) fun cs=>h.setK 20 l (some (.cells cs b)) k))
def Jgp (h:Tr) (l o:Nat) (vs:List Value) (k:Tr→Bool):Bool:=
 ZcG h l fun cs b=>b.rw&&(decide (o+vs.length≤cs.length)&&(vs.all isCell&&fL (splice cs o vs) fun cs=>h.setK 20 l (some (.cells cs b)) k))
def QdV (op:BinOp) (k:IntKind) (a b:Int) (K:EK1):Bool:=
 match op with
 | .add=>Zdm (k.wrap (a+b)) fun i=>K (.int k i)
 | .sub=>Zdm (k.wrap (a-b)) fun i=>K (.int k i)
 | .mul=>Zdm (k.wrap (a*b)) fun i=>K (.int k i)
 | .quo=> !(decide (b=0))&&Zdm (k.wrap (a.tdiv b)) fun i=>K (.int k i)
 | .rem=> !(decide (b=0))&&Zdm (a.tmod b) fun i=>K (.int k i)
 | .and=>Zdm (k.wrap (BitVec.ofInt k.bits a &&& BitVec.ofInt k.bits b).toNat) fun i=>K (.int k i)
 | .or=>Zdm (k.wrap (BitVec.ofInt k.bits a ||| BitVec.ofInt k.bits b).toNat) fun i=>K (.int k i)
 | .xor=>Zdm (k.wrap (BitVec.ofInt k.bits a ^^^ BitVec.ofInt k.bits b).toNat) fun i=>K (.int k i)
 | .andNot=>Zdm (k.wrap (BitVec.ofInt k.bits a &&& ~~~BitVec.ofInt k.bits b).toNat) fun i=>K (.int k i)
 | .eql=>fB (a==b) fun b=>K (.bool b)
 | .neq=>fB (a !=b) fun b=>K (.bool b)
 | .lss=>fB (decide (a<b)) fun b=>K (.bool b)
 | .leq=>fB (decide (a≤b)) fun b=>K (.bool b)
 | .gtr=>fB (decide (a>b)) fun b=>K (.bool b)
 | .geq=>fB (decide (a≥b)) fun b=>K (.bool b)
 | .shl=>decide (0≤b)&&Zdm (k.wrap (a*2^(min b.toNat k.bits))) fun i=>K (.int k i)
 | .shr=>decide (0≤b)&&Zdm (a.fdiv (2^(min b.toNat k.bits))) fun i=>K (.int k i)
def QfN (op:BinOp) (r:Bool) (K:EK1):Bool:=
 match op with
 | .eql=>fB r fun r=>K (.bool r)
 | .neq=>fB (!r) fun r=>K (.bool r)
 | _=>false
def Zgo (op:BinOp) (k k':IntKind):Bool:=match op with| .shl| .shr=>true|_=>decide (k=k')
def ZgF (e:EK) (op:BinOp) (x y:Value) (K:EK1):Bool:=
 match e with
 | .int=>match x,y with
  | .int k a,.int k' b=>Zgo op k k'&&QdV op k a b K
  | _,_=>false
 | .bool=>match x,y with
  | .bool a,.bool b=>QfN op (a==b) K
  | _,_=>false
 | .ptr=>match x,y with
  | .pointer none,.pointer q=>QfN op q.isNone K
  | .pointer (some _),.pointer none=>QfN op false K
  | _,_=>false
 | .slice=>match x,y with
  | .slice a _ _,.slice none _ _=>QfN op a.isNone K
  | _,_=>false
 | .agg ks=>match x,y with
  | .agg xs,.agg ys=>match Xj ks xs.toList ys.toList with
   | some r=>QfN op r K
   | none=>false
  | _,_=>false
 | .str=>match x,y with
  | .string a,.string b=>QfN op (Xav a.data.toList b.data.toList) K
  | _,_=>false
 | .other=>false
def eUn (op:UnOp) (x:Value) (K:EK1):Bool:=
 match op,x with
 | .not,.bool b=>fB (!b) fun b=>K (.bool b)
 | .neg,.int k a=>Zdm (k.wrap (0-a)) fun i=>K (.int k i)
 | _,_=>false
def XfT (dst:IntKind) (x:Value) (K:EK1):Bool:=match x with| .int _ a=>Zdm (dst.wrap a) fun i=>K (.int dst i)|_=>false
def QgH (x:Value) (K:EK1):Bool:=match x with
 | .pointer (some a)=>K (.pointer (some a))
 | .func (.func f) a b=>K (.func (.func f) a b)
 | .slice a n c=>K (.slice a n c)
 | .int k n=>K (.int k n)
 | .bool b=>K (.bool b)
 | _=>false
def QcS (x:Value) (off:Nat) (K:EK1):Bool:=Jf6 x fun l o=>Qbd (o+off) fun o=>K (ptr l o)
def Jb4 (x i:Value) (z:Nat) (K:EK1):Bool:=
 match x,i with
 | .slice (some ⟨l,o,none⟩) len _,.int _ j=>decide (0≤j)&&(decide (j<len)&&Qbd (o+j.toNat*z) fun o=>K (ptr l o))
 | _,_=>false
def Qcs (x i:Value) (len z:Nat) (K:EK1):Bool:=
 match x,i with
 | .pointer (some ⟨l,o,none⟩),.int _ j=>decide (0≤j)&&(decide (j<len)&&Qbd (o+j.toNat*z) fun o=>K (ptr l o))
 | _,_=>false
def ZfE (cs:List Value) (off:Nat) (agg:Option Nat) (K:EK1):Bool:=
 match agg with
 | none=>Qgj cs off K
 | some k=>decide (off+k≤cs.length)&&fL ((cs.drop off).take k) fun cs=>K (.agg cs.toArray)
def ZgL (x i:Value) (len z:Nat) (agg:Option Nat) (K:EK1):Bool:=
 Jf7 x fun cs=>ZfO i fun j=>decide (0≤j)&&(decide (j<len)&&ZfE cs (j.toNat*z) agg K)
def Jc6 (x:Value) (i:Nat) (K:EK1):Bool:=match x with| .tuple vs=>Qgj vs.toList i K|_=>false
def QgA (x:Value) (K:EK1):Bool:=match x with| .slice _ n _=>K (.int .i64 n)|_=>false
def XbV (x:Option Value) (d m:Nat) (K:Nat→Bool):Bool:=
 match x with
 | none=>K d
 | some v=>ZfO v fun i=>decide (0≤i)&&(decide (i≤m)&&Qbd i.toNat K)
def JeV (x:Value) (lo hi mx:Option Value) (z:Nat) (K:EK1):Bool:=
 match x with
 | .slice a len c=>
  bif decide (c<LC) then
   XbV mx c c fun m=>XbV hi len m fun h=>XbV lo 0 h fun l=>fVd (.slice (if m=l then a else a.map (·.add (l*z))) (h-l) (m-l)) K
  else
   decide (c=LC+z)&&match mx with
   | none=>XbV hi len len fun h=>XbV lo 0 h fun l=>fVd (.slice (a.map (·.add (l*z))) (h-l) (LC+z)) K
   | some mx=>XbV (some mx) 0 len fun m=>decide (m<LC)&&XbV hi 0 m fun h=>XbV lo 0 h fun l=>fVd (.slice (a.map (·.add (l*z))) (h-l) (m-l)) K
 | _=>false
def Zdv (h:Tr) (x:Value) (k z:Nat) (K:List Value→Bool):Bool:=
 match x with
 | .slice none _ _=>decide (k*z=0)&&K []
 | .slice (some ⟨l,o,none⟩) _ _=>bif decide (k*z=0) then K [] else Zgy h l o (k*z) K
 | _=>false
def ZdK (s x:Value) (z bytes:Nat) (h:Tr) (n:Nat) (K:EC):Bool:=
 match s,x with
 | .slice base len c,.slice _ k _=>
  decide (bytes≤1048576)&&(decide ((len+k)*bytes≤140737488355328)&&(decide (len+k<140737488355328)&&Zdv h x k z fun new=>new.all isCell&&
  bif decide (c<LC) then
   bif decide (len+k≤c) then
    match base with
    | none=>new.isEmpty&&Qbd (len+k) fun m=>K (.slice none m c) h n
    | some ⟨l,o,none⟩=>bif new.isEmpty then Qbd (len+k) fun m=>K (.slice (some ⟨l,o,none⟩) m c) h n else Jgp h l (o+len*z) new fun h=>Qbd (len+k) fun m=>K (.slice (some ⟨l,o,none⟩) m c) h n
    | _=>false
   else Zdv h s len z fun old=>eNew (old++new) (.loose z) h n fun l h n=>Qbd (len+k) fun m=>K (.slice (some ⟨l,0,none⟩) m (LC+z)) h n
  else match base with
   | some ⟨l,o,none⟩=>decide (c=LC+z)&&ZcG h l fun cs bk=>(match bk with| .loose z'=>decide (z'=z)|_=>false)&&(decide (o+len*z≤cs.length)&&
     h.setK 20 l none fun h=>eNew (((cs.drop o).take (len*z))++new) (.loose z) h n fun l h n=>Qbd (len+k) fun m=>K (.slice (some ⟨l,0,none⟩) m (LC+z)) h n)
   | _=>false))
 | _,_=>false
def Zde (s x:Value) (zero:List Value) (bytes:Nat) (h:Tr) (n:Nat) (K:EC):Bool:=
 match s,x with
 | .slice none 0 0,.int .i64 a=>decide (0<zero.length)&&(decide (0<a)&&(decide (a<1099511627776)&&(decide (a.toNat*bytes≤1099511627776)&&
  eNew (reps a.toNat zero) (.loose zero.length) h n fun l h n=>Qbd a.toNat fun m=>K (.slice (some ⟨l,0,none⟩) m (LC+zero.length)) h n)))
 | _,_=>false
def Jf1 (d s:Value) (z:Nat) (h:Tr) (K:Value→Tr→Bool):Bool:=
 match d,s with
 | .slice base len _,.slice _ k _=>Zdv h s (min k len) z fun new=>new.all isCell&&
  match base with
  | none=>Qbd (min k len) fun m=>K (.int .i64 (m:Nat)) h
  | some ⟨l,o,none⟩=>bif new.isEmpty then Qbd (min k len) fun m=>K (.int .i64 (m:Nat)) h else Jgp h l o new fun h=>Qbd (min k len) fun m=>K (.int .i64 (m:Nat)) h
  | _=>false
 | _,_=>false
def Jff (x:Value) (zero:List Value) (h:Tr) (K:Value→Tr→Bool):Bool:=
 match x with
 | .slice none _ _=>K undef h
 | .slice (some ⟨l,o,none⟩) len _=>bif decide (len=0)||zero.isEmpty then K undef h else Jgp h l o (reps len zero) fun h=>K undef h
 | _=>false
def Zgi (len cap:Value) (zero:List Value) (bytes:Nat) (h:Tr) (n:Nat) (K:EC):Bool:=
 ZfO len fun a=>ZfO cap fun c=>decide (0≤a)&&(decide (a≤c)&&(decide (c*bytes≤1099511627776)&&(decide (c≤1099511627776)&&
  eNew (reps c.toNat zero) .exact h n fun l h n=>Qbd a.toNat fun a=>Qbd c.toNat fun c=>K (.slice (some ⟨l,0,none⟩) a c) h n)))
def Zd2 (cs:List Value):List (Nat×Option Nat×Value)→(List Value→Bool)→Bool
 | [],K=>K cs
 |(off,none,v)::r,K=>isCell v&&(decide (off<cs.length)&&Zd2 (cs.set off v) r K)
 |(off,some k,v)::r,K=>Jf7 v fun vs=>decide (vs.length=k)&&(decide (off+k≤cs.length)&&Zd2 (splice cs off vs) r K)
abbrev EM:=List (Value×Value)
def fP:EM→(EM→Bool)→Bool
 | [],k=>k []
 | e::l,k=>fP l fun l=>k (e::l)
theorem Qgq: ∀(l:EM) (k:EM→Bool),fP l k=k l
 | [],_=>rfl
 | v::l,k=>by simp only [fP];rw [Qgq l]
def ZfR (h:Tr) (l:Nat) (k:EM→Bool):Bool:=match h.get l with|some (.map es)=>k es|_=>false
def Xgo (kk:IntKind) (key:Value) (K:Int→Bool):Bool:=match key with| .int k a=>decide (k=kk)&&K a|_=>false
def QeN (kk:IntKind) (a:Int) (es:EM) (K:Option Nat→Bool):Bool:=match JdO kk a es 0 with|some r=>K r|none=>false
def eAt (es:EM) (i:Nat) (K:Value×Value→Bool):Bool:=match es[i]? with|some e=>K e|none=>false
def JeN (b:Blk) (h:Tr) (n:Nat) (K:Nat→Tr→Nat→Bool):Bool:=Qbd (n+1) fun m=>h.setK 20 n (some b) fun h=>K n h m
def JdU (h:Tr) (l:Nat) (es:EM) (K:Tr→Bool):Bool:=fP es fun es=>h.setK 20 l (some (.map es)) K
def Qfg (kk:IntKind) (x ix z:Value) (ok:Bool) (h:Tr) (K:EK1):Bool:=
 Xgo kk ix fun a=>match x with
 | .map none=>K (match ok with|true=> .tuple #[z,.bool false]|false=>z)
 | .map (some l)=>ZfR h l fun es=>QeN kk a es fun r=>match r with
  | some i=>eAt es i fun e=>K (match ok with|true=> .tuple #[e.2,.bool true]|false=>e.2)
  | none=>K (match ok with|true=> .tuple #[z,.bool false]|false=>z)
 | _=>false
def Zff (kk:IntKind) (m key x:Value) (h:Tr) (K:Tr→Bool):Bool:=
 Xgo kk key fun a=>match m with
 | .map (some l)=>ZfR h l fun es=>QeN kk a es fun r=>match r with
  | some i=>JdU h l (es.set i (.int kk a,x)) K
  | none=>JdU h l (es++[(.int kk a,x)]) K
 | _=>false
def Xdw (kk:IntKind) (m key z:Value) (h:Tr) (K:Value→Tr→Bool):Bool:=
 Xgo kk key fun a=>match m with
 | .map (some l)=>ZfR h l fun es=>QeN kk a es fun r=>match r with
  | some i=>eAt es i fun e=>JdU h l (es.set i (.int kk a,e.2)) fun h=>K (.tuple #[e.2,.int .i64 i]) h
  | none=>JdU h l (es++[(.int kk a,z)]) fun h=>K (.tuple #[z,.int .i64 es.length]) h
 | _=>false
def Zcv (m s x:Value) (h:Tr) (K:Tr→Bool):Bool:=
 ZfO s fun j=>match m with
 | .map (some l)=>ZfR h l fun es=>decide (0≤j)&&eAt es j.toNat fun e=>JdU h l (es.set j.toNat (e.1,x)) K
 | _=>false
def Je8 (x:Value) (h:Tr) (n:Nat) (K:Nat→Tr→Nat→Bool):Bool:=
 match x with
 | .map (some l)=>ZfR h l fun es=>Qbd es.length fun c=>JeN (.iter l c []) h n K
 | _=>false
def XfL (it:Value) (h:Tr) (K:Nat→Nat→EM→List Nat→Bool):Bool:=
 match it with
 | .pointer (some ⟨p,0,none⟩)=>match h.get p with
  | some (.iter l cnt seen)=>ZfR h l fun es=>decide (es.length=cnt)&&K p l es seen
  | _=>false
 | _=>false
def ZfI (F:Nat→Value×Value→Bool) (seen:List Nat):Nat→EM→Bool
 | _,[]=>true
 | i,e::es=>(bif seen.contains i then true else F i e)&&ZfI F seen (i+1) es
def Jgk (it:Value) (h:Tr) (K:Value→Tr→Bool):Bool:=
 XfL it h fun p l es seen=>(bif (List.range es.length).all seen.contains then K (.tuple #[.bool false]) h else true)&&
  ZfI (fun i kv=>Qbd i fun i=>h.setK 20 p (some (.iter l es.length (seen++[i]))) fun h=>K (.tuple #[.bool true,kv.1,kv.2]) h) seen 0 es
def QfP (it:Value) (h:Tr) (K:EK1):Bool:=
 XfL it h fun _ _ es seen=>match seen.getLast? with
 | some i=>eAt es i fun kv=>K (.tuple #[kv.1,kv.2])
 | none=>false
def QgE (x:Value) (K:EK1):Bool:=match x with| .slice _ _ c=>(bif decide (c<LC) then K (.int .i64 (c:Nat)) else false)|_=>false
def Qf5 (x:Value) (K:EK1):Bool:=match x with| .string s=>Qbd s.size fun m=>K (.int .i64 (m:Nat))|_=>false
def Zgd (x i:Value) (K:EK1):Bool:=
 match x,i with
 | .string s,.int _ j=>decide (0≤j)&&(match s[j.toNat]? with|some b=>Qbd b.toNat fun m=>K (.int .u8 (m:Nat))|none=>false)
 | _,_=>false
section
variable {h:Tr} {n:Nat}
theorem JfZ {v:Value} {k:Bool→Bool} {K:Bool→Prop} (hk: ∀b,k b=true→K b) (e:JfU v k=true):XcN v K:=by
 unfold JfU at e;unfold XcN;split at e<;>first|exact hk _ e|cases e
theorem ZcZ {v:Value} {k:Int→Bool} {K:Int→Prop} (hk: ∀b,k b=true→K b) (e:ZfO v k=true):Qd4 v K:=by
 unfold ZfO at e;unfold Qd4;split at e<;>first|exact hk _ e|cases e
theorem QdI {v:Value} {k:Nat→Nat→Bool} {K:Nat→Nat→Prop} (hk: ∀l o,k l o=true→K l o) (e:Jf6 v k=true):Qe v K:=by
 unfold Jf6 at e;unfold Qe;split at e<;>first|exact hk _ _ e|cases e
theorem Qds {v:Value} {k:List Value→Bool} {K:List Value→Prop} (hk: ∀b,k b=true→K b) (e:Jf7 v k=true):Jl v K:=by
 unfold Jf7 at e;unfold Jl;split at e<;>first|exact hk _ e|cases e
theorem XbO {l:Nat} {k:List Value→BK→Bool} {K:List Value→BK→Prop} (hk: ∀c b,k c b=true→K c b) (e:ZcG h l k=true):Zam h.get l K:=by
 unfold ZcG at e;unfold Zam;split at e
 ·rename_i cs b hg;rw [hg];exact hk _ _ e
 ·cases e
theorem Qe4 {cs:List Value} {o:Nat} {k:EK1} {K:Value→Prop} (hk: ∀b,k b=true→K b) (e:Qgj cs o k=true):Zdd cs o K:=by
 unfold Qgj at e;unfold Zdd;split at e
 ·rename_i v hg;rw [hg];exact hk _ e
 ·cases e
theorem JdK {l o:Nat} {k:EK1} {K:Value→Prop} (hk: ∀b,k b=true→K b) (e:eLd h l o k=true):kLd h.get l o K:=XbO (fun _ _=>Qe4 hk) e
theorem Jfd {l o z:Nat} {k:List Value→Bool} {K:List Value→Prop} (hk: ∀b,k b=true→K b) (e:Zgy h l o z k=true):Zn h.get l o z K:=
 XbO (fun _ _ e=>by simp only [Bool.and_eq_true,decide_eq_true_eq,JcP] at e;exact ⟨e.1,hk _ e.2⟩) e
theorem Xcb {cs:List Value} {b:BK} {k:Nat→Tr→Nat→Bool} {K:Nat→G→Nat→Prop} (hk: ∀l h n,k l h n=true→K l h.get n) (e:eNew cs b h n k=true):Zw cs b h.get n K:=by
 intro _
 simp only [eNew,JcP,ZI] at e
 obtain ⟨t,ht,e⟩:=Tr.setK_s _ _ _ _ _ e
 rw [←ht];exact hk _ _ _ e
theorem QeG {l o:Nat} {v:Value} {k:Tr→Bool} {K:G→Prop} (hk: ∀h,k h=true→K h.get) (e:eSt h l o v k=true):kSt h.get l o v K:=
 XbO (fun cs b e=>by
  simp only [Bool.and_eq_true,decide_eq_true_eq,JcP] at e
  obtain ⟨e1,e2,e3,e⟩:=e
  obtain ⟨t,ht,e⟩:=Tr.setK_s _ _ _ _ _ e
  exact ⟨e1,e2,e3,by rw [←ht];exact hk _ e⟩) e
theorem Qel {l o:Nat} {vs:List Value} {k:Tr→Bool} {K:G→Prop} (hk: ∀h,k h=true→K h.get) (e:Jgp h l o vs k=true):Xw h.get l o vs K:=
 XbO (fun cs b e=>by
  simp only [Bool.and_eq_true,decide_eq_true_eq,JcP] at e
  obtain ⟨e1,e2,e3,e⟩:=e
  obtain ⟨t,ht,e⟩:=Tr.setK_s _ _ _ _ _ e
  exact ⟨e1,e2,List.all_eq_true.1 e3,by rw [←ht];exact hk _ e⟩) e
theorem Zfm {op:BinOp} {kd:IntKind} {a b:Int} {k:EK1} {K:Value→Prop} (hk: ∀b,k b=true→K b) (e:QdV op kd a b k=true):ZF op kd a b K:=by
 cases op<;>simp only [QdV,Xb5,ZfG,Bool.and_eq_true,Bool.not_eq_true',decide_eq_false_iff_not,decide_eq_true_eq] at e<;>simp only [ZF]<;>
  first|exact hk _ e|exact ⟨e.1,hk _ e.2⟩
theorem JcV {op:BinOp} {r:Bool} {k:EK1} {K:Value→Prop} (hk: ∀b,k b=true→K b) (e:QfN op r k=true):Jdl op r K:=by
 cases op<;>simp only [QfN,ZfG] at e<;>simp only [Jdl]<;>first|exact hk _ e|cases e
theorem Zgs {ek:EK} {op:BinOp} {x y:Value} {k:EK1} {K:Value→Prop} (hk: ∀b,k b=true→K b) (e:ZgF ek op x y k=true):Xb ek op x y K:=by
 unfold ZgF at e;unfold Xb
 split at e
 ·split at e
  ·simp only [Bool.and_eq_true] at e
   refine ⟨?_,Zfm hk e.2⟩
   have e:=e.1
   cases op<;>simp only [Zgo,decide_eq_true_eq] at e<;>first|exact e|trivial
  ·cases e
 ·split at e
  ·exact JcV hk e
  ·cases e
 ·split at e
  ·exact JcV hk e
  ·exact JcV hk e
  ·cases e
 ·split at e
  ·exact JcV hk e
  ·cases e
 ·split at e
  ·split at e
   ·rename_i hl;simp only [hl];exact JcV hk e
   ·cases e
  ·cases e
 ·split at e
  ·rename_i a b
   have:Xav a.data.toList b.data.toList=(a==b):=by
    rw [Bool.eq_iff_iff,MapKept.bytes_beq]
    constructor
    ·intro h
     have:=JbF h
     cases a;cases b
     simp only at this
     congr 1
     exact Array.ext' this
    ·rintro rfl;exact ZcE _
   rw [this] at e
   exact JcV hk e
  ·cases e
 ·cases e
theorem QgC {op:UnOp} {x:Value} {k:EK1} {K:Value→Prop} (hk: ∀b,k b=true→K b) (e:eUn op x k=true):kUn op x K:=by
 unfold eUn at e;unfold kUn
 split at e
 ·rw [ZfG] at e;exact hk _ e
 ·rw [Xb5] at e;exact hk _ e
 ·cases e
theorem Jf8 {d:IntKind} {x:Value} {k:EK1} {K:Value→Prop} (hk: ∀b,k b=true→K b) (e:XfT d x k=true):Xch d x K:=by
 unfold XfT at e;unfold Xch
 split at e
 ·rw [Xb5] at e;exact hk _ e
 ·cases e
theorem Jgu {x:Value} {k:EK1} {K:Value→Prop} (hk: ∀b,k b=true→K b) (e:QgH x k=true):Qo x K:=by
 unfold QgH at e;unfold Qo
 split at e<;>first|exact hk _ e|cases e
theorem Jdu {x:Value} {off:Nat} {k:EK1} {K:Value→Prop} (hk: ∀b,k b=true→K b) (e:QcS x off k=true):Zas x off K:=
 QdI (fun l o e=>by rw [ZI] at e;exact hk _ e) e
theorem Xdo {x i:Value} {z:Nat} {k:EK1} {K:Value→Prop} (hk: ∀b,k b=true→K b) (e:Jb4 x i z k=true):Jc x i z K:=by
 unfold Jb4 at e;unfold Jc
 split at e
 ·simp only [Bool.and_eq_true,decide_eq_true_eq,ZI] at e;exact ⟨e.1,e.2.1,hk _ e.2.2⟩
 ·cases e
theorem Zd3 {x i:Value} {len z:Nat} {k:EK1} {K:Value→Prop} (hk: ∀b,k b=true→K b) (e:Qcs x i len z k=true):ZD x i len z K:=by
 unfold Qcs at e;unfold ZD
 split at e
 ·simp only [Bool.and_eq_true,decide_eq_true_eq,ZI] at e;exact ⟨e.1,e.2.1,hk _ e.2.2⟩
 ·cases e
theorem ZeT {cs:List Value} {off:Nat} {a:Option Nat} {k:EK1} {K:Value→Prop} (hk: ∀b,k b=true→K b) (e:ZfE cs off a k=true):XaH cs off a K:=by
 cases a with
 | none=>exact Qe4 hk e
 | some z=>simp only [ZfE,Bool.and_eq_true,decide_eq_true_eq,JcP] at e;exact ⟨e.1,hk _ e.2⟩
theorem Jgi {x i:Value} {len z:Nat} {a:Option Nat} {k:EK1} {K:Value→Prop} (hk: ∀b,k b=true→K b) (e:ZgL x i len z a k=true):Xdl x i len z a K:=
 Qds (fun _=>ZcZ fun _ e=>by simp only [Bool.and_eq_true,decide_eq_true_eq] at e;exact ⟨e.1,e.2.1,ZeT hk e.2.2⟩) e
theorem Qey {x:Value} {i:Nat} {k:EK1} {K:Value→Prop} (hk: ∀b,k b=true→K b) (e:Jc6 x i k=true):Xd x i K:=by
 unfold Jc6 at e;unfold Xd;split at e<;>first|exact Qe4 hk e|cases e
theorem Jgn {x:Value} {k:EK1} {K:Value→Prop} (hk: ∀b,k b=true→K b) (e:QgA x k=true):ZaH x K:=by
 unfold QgA at e;unfold ZaH;split at e<;>first|exact hk _ e|cases e
theorem QaL {x:Option Value} {d m:Nat} {k:Nat→Bool} {K:Nat→Prop} (hk: ∀b,k b=true→K b) (e:XbV x d m k=true):XJ x d m K:=by
 cases x with
 | none=>exact hk _ e
 | some v=>exact ZcZ (fun _ e=>by simp only [Bool.and_eq_true,decide_eq_true_eq,ZI] at e;exact ⟨e.1,e.2.1,hk _ e.2.2⟩) e
theorem Qfx {x:Value} {lo hi mx:Option Value} {z:Nat} {k:EK1} {K:Value→Prop} (hk: ∀b,k b=true→K b) (e:JeV x lo hi mx z k=true):Xu x lo hi mx z K:=by
 unfold JeV at e;unfold Xu
 split at e
 ·rename_i a len c
  by_cases hc:c<LC
  ·simp only [decide_eq_true hc,cond_true] at e
   simp only [if_pos hc]
   exact QaL (fun _=>QaL fun _=>QaL fun _ e=>hk _ (by rw [Zfq] at e;exact e)) e
  ·simp only [decide_eq_false hc,cond_false,Bool.and_eq_true,decide_eq_true_eq] at e
   simp only [if_neg hc]
   refine ⟨e.1,?_⟩
   have e:=e.2
   cases mx with
   | none=>exact QaL (fun _=>QaL fun _ e=>hk _ (by rw [Zfq] at e;exact e)) e
   | some mx=>exact QaL (fun _ e=>by
     simp only [Bool.and_eq_true,decide_eq_true_eq] at e
     exact ⟨e.1,QaL (fun _=>QaL fun _ e=>hk _ (by rw [Zfq] at e;exact e)) e.2⟩) e
 ·cases e
theorem Xc5 {x:Value} {m z:Nat} {k:List Value→Bool} {K:List Value→Prop} (hk: ∀b,k b=true→K b) (e:Zdv h x m z k=true):J6 h.get x m z K:=by
 unfold Zdv at e;unfold J6
 split at e
 ·simp only [Bool.and_eq_true,decide_eq_true_eq] at e;exact ⟨e.1,hk _ e.2⟩
 ·by_cases hc:m*z=0
  ·simp only [decide_eq_true hc,cond_true] at e;simp only [if_pos hc];exact hk _ e
  ·simp only [decide_eq_false hc,cond_false] at e;simp only [if_neg hc];exact Jfd hk e
 ·cases e
theorem Xfa {α:Type} {l:List α} (e:l.isEmpty=true):l=[]:=by simpa using e
theorem JeB {s x:Value} {z:List Value} {bytes:Nat} {k:EC} {K:Cont} (hk: ∀v h n,k v h n=true→K v h.get n) (e:Zde s x z bytes h n k=true):QaI s x z bytes h.get n K:=by
 unfold Zde at e;unfold QaI
 split at e
 ·simp only [Bool.and_eq_true,decide_eq_true_eq,ZI] at e
  exact ⟨e.1,e.2.1,e.2.2.1,e.2.2.2.1,Xcb (fun l h n e=>hk _ _ _ e) e.2.2.2.2⟩
 ·cases e
theorem QeR {s x:Value} {z bytes:Nat} {k:EC} {K:Cont} (hk: ∀v h n,k v h n=true→K v h.get n) (e:ZdK s x z bytes h n k=true):Q5 s x z bytes h.get n K:=by
 unfold ZdK at e;unfold Q5
 split at e
 ·rename_i base len c ax m cx
  simp only [Bool.and_eq_true,decide_eq_true_eq] at e
  obtain ⟨e1,e2,e3,e⟩:=e
  refine ⟨e1,e2,e3,Xc5 (fun new e=> ?_) e⟩
  simp only [Bool.and_eq_true] at e
  refine ⟨List.all_eq_true.1 e.1,?_⟩
  have e:=e.2
  by_cases hc:c<LC
  ·simp only [decide_eq_true hc,cond_true] at e
   simp only [if_pos hc]
   by_cases hc2:len+m≤c
   ·simp only [decide_eq_true hc2,cond_true] at e
    simp only [if_pos hc2]
    split at e
    ·simp only [Bool.and_eq_true,ZI] at e;exact ⟨Xfa e.1,hk _ _ _ e.2⟩
    ·by_cases hn:new=[]
     ·subst hn;simp only [List.isEmpty_nil,cond_true,ZI] at e;simp only [if_true];exact hk _ _ _ e
     ·have:new.isEmpty=false:=by simpa using hn
      simp only [this,cond_false,ZI] at e
      simp only [if_neg hn]
      exact Qel (fun h e=>hk _ _ _ e) e
    ·cases e
   ·simp only [decide_eq_false hc2,cond_false] at e
    simp only [if_neg hc2]
    exact Xc5 (fun old e=>Xcb (fun l h n e=>hk _ _ _ (by rw [ZI] at e;exact e)) e) e
  ·simp only [decide_eq_false hc,cond_false] at e
   simp only [if_neg hc]
   split at e
   ·simp only [Bool.and_eq_true,decide_eq_true_eq] at e
    rename_i l o _ _
    refine ⟨e.1,XbO (fun cs bk e=> ?_) e.2⟩
    simp only [Bool.and_eq_true,decide_eq_true_eq] at e
    obtain ⟨e1,e2,e⟩:=e
    refine ⟨by cases bk<;>simp at e1 ⊢;exact e1,e2,?_⟩
    obtain ⟨t,ht,e⟩:=Tr.setK_s _ _ _ _ _ e
    intro hn
    have:=Xcb (K:=fun l g n=>K (.slice (some ⟨l,0,none⟩) _ (LC+z)) g n) (fun l h n e=>hk _ _ _ (by rw [ZI] at e;exact e)) e
    rw [ht] at this
    refine this ?_
    by_cases hl:n=l
    ·rw [hl,Xa]
    ·rw [Xc _ _ hl];exact hn
   ·cases e
 ·cases e
theorem Jgb {d s:Value} {z:Nat} {k:Value→Tr→Bool} {K:Value→G→Prop} (hk: ∀v h,k v h=true→K v h.get) (e:Jf1 d s z h k=true):Zbk d s z h.get K:=by
 unfold Jf1 at e;unfold Zbk
 split at e
 ·refine Xc5 (fun new e=> ?_) e
  simp only [Bool.and_eq_true] at e
  refine ⟨List.all_eq_true.1 e.1,?_⟩
  have e:=e.2
  split at e
  ·rw [ZI] at e;exact hk _ _ e
  ·by_cases hn:new=[]
   ·subst hn;simp only [List.isEmpty_nil,cond_true,ZI] at e;simp only [if_true];exact hk _ _ e
   ·have:new.isEmpty=false:=by simpa using hn
    simp only [this,cond_false,ZI] at e
    simp only [if_neg hn]
    exact Qel (fun h e=>hk _ _ e) e
  ·cases e
 ·cases e
theorem Xfv {x:Value} {zero:List Value} {k:Value→Tr→Bool} {K:Value→G→Prop} (hk: ∀v h,k v h=true→K v h.get) (e:Jff x zero h k=true):Jav x zero h.get K:=by
 unfold Jff at e;unfold Jav
 split at e
 ·exact hk _ _ e
 ·rename_i l o len c
  by_cases hn:len=0∨zero=[]
  ·have:(decide (len=0)||zero.isEmpty)=true:=by simpa using hn
   simp only [this,cond_true] at e
   simp only [if_pos hn];exact hk _ _ e
  ·have:(decide (len=0)||zero.isEmpty)=false:=by
    rw [Bool.eq_false_iff];intro h;exact hn (by simpa using h)
   simp only [this,cond_false] at e
   simp only [if_neg hn];exact Qel (fun h e=>hk _ _ e) e
 ·cases e
theorem JfS {len cap:Value} {zero:List Value} {bytes:Nat} {k:EC} {K:Cont} (hk: ∀v h n,k v h n=true→K v h.get n) (e:Zgi len cap zero bytes h n k=true):QbK len cap zero bytes h.get n K:=
 ZcZ (fun a=>ZcZ fun c e=>by
  simp only [Bool.and_eq_true,decide_eq_true_eq] at e
  exact ⟨e.1,e.2.1,e.2.2.1,e.2.2.2.1,Xcb (fun l h n e=>hk _ _ _ (by simpa only [ZI] using e)) e.2.2.2.2⟩) e
theorem XcF: ∀{l:List (Nat×Option Nat×Value)} {cs:List Value} {k:List Value→Bool} {K:List Value→Prop},(∀l,k l=true→K l)→Zd2 cs l k=true→Xk cs l K
 | [],cs,k,K,hk,e=>hk _ e
 |(off,none,v)::r,cs,k,K,hk,e=>by
  simp only [Zd2,Bool.and_eq_true,decide_eq_true_eq] at e
  exact ⟨e.1,e.2.1,XcF hk e.2.2⟩
 |(off,some z,v)::r,cs,k,K,hk,e=>Qds (fun _ e=>by
  simp only [Bool.and_eq_true,decide_eq_true_eq] at e
  exact ⟨e.1,e.2.1,XcF hk e.2.2⟩) e
theorem Qc2 {l:Nat} {k:EM→Bool} {K:EM→Prop} (hk: ∀b,k b=true→K b) (e:ZfR h l k=true):Qez h.get l K:=by
 unfold ZfR at e;unfold Qez;split at e
 ·rename_i es hg;rw [hg];exact hk _ e
 ·cases e
theorem Jfi {kk:IntKind} {v:Value} {k:Int→Bool} {K:Int→Prop} (hk: ∀b,k b=true→K b) (e:Xgo kk v k=true):Jfq kk v K:=by
 unfold Xgo at e;unfold Jfq;split at e
 ·simp only [Bool.and_eq_true,decide_eq_true_eq] at e;exact ⟨e.1,hk _ e.2⟩
 ·cases e
theorem JdN {kk:IntKind} {a:Int} {es:EM} {k:Option Nat→Bool} {K:Option Nat→Prop} (hk: ∀b,k b=true→K b) (e:QeN kk a es k=true):XcO kk a es K:=by
 unfold QeN at e;unfold XcO;split at e
 ·rename_i r hr;rw [hr];exact hk _ e
 ·cases e
theorem QfL {es:EM} {i:Nat} {k:Value×Value→Bool} {K:Value×Value→Prop} (hk: ∀b,k b=true→K b) (e:eAt es i k=true):kAt es i K:=by
 unfold eAt at e;unfold kAt;split at e
 ·rename_i r hr;rw [hr];exact hk _ e
 ·cases e
theorem QdQ {b:Blk} {k:Nat→Tr→Nat→Bool} {K:Nat→G→Nat→Prop} (hk: ∀l h n,k l h n=true→K l h.get n) (e:JeN b h n k=true):ZdY b h.get n K:=by
 intro _
 simp only [JeN,ZI] at e
 obtain ⟨t,ht,e⟩:=Tr.setK_s _ _ _ _ _ e
 rw [←ht];exact hk _ _ _ e
theorem Zcu {l:Nat} {es:EM} {k:Tr→Bool} {K:G→Prop} (hk: ∀h,k h=true→K h.get) (e:JdU h l es k=true):K (upd h.get l (some (.map es))):=by
 simp only [JdU,Qgq] at e
 obtain ⟨t,ht,e⟩:=Tr.setK_s _ _ _ _ _ e
 rw [←ht];exact hk _ e
theorem Xfj {kk:IntKind} {x i z:Value} {ok:Bool} {k:EK1} {K:Value→Prop} (hk: ∀b,k b=true→K b) (e:Qfg kk x i z ok h k=true):JcI kk x i z ok h.get K:=by
 refine Jfi (fun a e=> ?_) e
 split at e
 ·exact hk _ e
 ·refine Qc2 (fun es=>JdN fun r e=> ?_) e
  cases r with
  | some i=>exact QfL (fun _=>hk _) e
  | none=>exact hk _ e
 ·cases e
theorem Zdn {kk:IntKind} {x i z:Value} {k:Tr→Bool} {K:G→Prop} (hk: ∀h,k h=true→K h.get) (e:Zff kk x i z h k=true):Jcz kk x i z h.get K:=by
 refine Jfi (fun a e=> ?_) e
 split at e
 ·refine Qc2 (fun es=>JdN fun r e=> ?_) e
  cases r with
  | some i=>exact Zcu hk e
  | none=>exact Zcu hk e
 ·cases e
theorem JdL {kk:IntKind} {x i z:Value} {k:Value→Tr→Bool} {K:Value→G→Prop} (hk: ∀v h,k v h=true→K v h.get) (e:Xdw kk x i z h k=true):Zbn kk x i z h.get K:=by
 refine Jfi (fun a e=> ?_) e
 split at e
 ·refine Qc2 (fun es=>JdN fun r e=> ?_) e
  cases r with
  | some i=>exact QfL (fun e'=>Zcu (K:=fun g=>K _ g) (hk _)) e
  | none=>exact Zcu (K:=fun g=>K _ g) (hk _) e
 ·cases e
theorem Qc8 {x i z:Value} {k:Tr→Bool} {K:G→Prop} (hk: ∀h,k h=true→K h.get) (e:Zcv x i z h k=true):JaD x i z h.get K:=by
 refine ZcZ (fun a e=> ?_) e
 split at e
 ·refine Qc2 (fun es e=> ?_) e
  simp only [Bool.and_eq_true,decide_eq_true_eq] at e
  exact ⟨e.1,QfL (fun _=>Zcu hk) e.2⟩
 ·cases e
theorem ZfH {x:Value} {k:Nat→Tr→Nat→Bool} {K:Nat→G→Nat→Prop} (hk: ∀l h n,k l h n=true→K l h.get n) (e:Je8 x h n k=true):Xca x h.get n K:=by
 unfold Je8 at e;unfold Xca
 split at e
 ·exact Qc2 (fun es e=>by rw [ZI] at e;exact QdQ hk e) e
 ·cases e
theorem Je2 {x:Value} {k:Nat→Nat→EM→List Nat→Bool} {K:Nat→Nat→EM→List Nat→Prop} (hk: ∀p l e s,k p l e s=true→K p l e s) (e:XfL x h k=true):Xdb x h.get K:=by
 unfold XfL at e;unfold Xdb
 split at e
 ·split at e
  ·rename_i hg
   simp only [hg]
   exact Qc2 (fun es e=>by simp only [Bool.and_eq_true,decide_eq_true_eq] at e;exact ⟨e.1,hk _ _ _ _ e.2⟩) e
  ·cases e
 ·cases e
theorem Qfp {F:Nat→Value×Value→Bool} {seen:List Nat}: ∀(es:EM) (i:Nat),ZfI F seen i es=true→ ∀(j:Nat) (kv:Value×Value),es[j]? =some kv→i+j∉seen→F (i+j) kv=true
 | [],_,_,j,kv,hj,_=>by simp at hj
 | e::es,i,h,j,kv,hj,hn=>by
  simp only [ZfI,Bool.and_eq_true] at h
  cases j with
  | zero=>
   simp at hj;subst hj
   have h1:=h.1
   have:seen.contains i=false:=by simpa using hn
   rw [this] at h1
   exact h1
  | succ j=>
   have:=Qfp es (i+1) h.2 j kv (by simpa using hj) (by rw [show i+1+j=i+(j+1) by omega];exact hn)
   rw [show i+1+j=i+(j+1) by omega] at this
   exact this
theorem Qf9 {x:Value} {k:Value→Tr→Bool} {K:Value→G→Prop} (hk: ∀v h,k v h=true→K v h.get) (e:Jgk x h k=true):ZeN x h.get K:=by
 refine Je2 (fun p l es seen e=> ?_) e
 simp only [Bool.and_eq_true] at e
 refine ⟨fun hall=> ?_,fun i kv hn hi=> ?_⟩
 ·have h1:=e.1
  have:(List.range es.length).all seen.contains=true:=by
   rw [List.all_eq_true];intro i hi
   have:=hall i (List.mem_range.1 hi)
   simpa using this
  rw [this] at h1
  exact hk _ _ h1
 ·have:=Qfp es 0 e.2 i kv hi (by simpa using hn)
  simp only [Nat.zero_add,ZI] at this
  obtain ⟨t,ht,e⟩:=Tr.setK_s _ _ _ _ _ this
  rw [←ht];exact hk _ _ e
theorem Zfy {x:Value} {k:EK1} {K:Value→Prop} (hk: ∀b,k b=true→K b) (e:QfP x h k=true):ZdD x h.get K:=by
 refine Je2 (fun p l es seen e=> ?_) e
 revert e;generalize seen.getLast? =u;intro e
 cases u with
 | none=>cases e
 | some i=>exact QfL (fun _=>hk _) e
theorem Jgs {x:Value} {k:EK1} {K:Value→Prop} (hk: ∀b,k b=true→K b) (e:QgE x k=true):ZfP x K:=by
 unfold QgE at e;unfold ZfP;split at e
 ·rename_i c
  by_cases hc:c<LC
  ·rw [decide_eq_true hc] at e;simp only [if_pos hc];exact hk _ e
  ·rw [decide_eq_false hc] at e;cases e
 ·cases e
theorem Qga {x:Value} {k:EK1} {K:Value→Prop} (hk: ∀b,k b=true→K b) (e:Qf5 x k=true):Jcu x K:=by
 unfold Qf5 at e;unfold Jcu;split at e
 ·rw [ZI] at e;exact hk _ e
 ·cases e
theorem Zf7 {x i:Value} {k:EK1} {K:Value→Prop} (hk: ∀b,k b=true→K b) (e:Zgd x i k=true):ZcO x i K:=by
 unfold Zgd at e;unfold ZcO
 split at e
 ·simp only [Bool.and_eq_true,decide_eq_true_eq] at e
  refine ⟨e.1,?_⟩
  have e:=e.2
  split at e
  ·rename_i hb;simp only [hb];rw [ZI] at e;exact hk _ e
  ·cases e
 ·cases e
end
end Go.Proofs.YtmchcjaomcdbmaaGreat.Abs
namespace Go.Proofs.YtmchcjaomcdbmaaGreat.Abs
open Go Go.RowKit
variable {P:Program}
def XcB (P:Program) (t:TypeId) (K:Nat→Bool):Bool:=match P.info? t with|some i=>K i.size|none=>false
def XbP (P:Program) (t:TypeId) (K:Option Nat→Bool):Bool:=
 match P.underlying t with
 | some (.struct _)|some (.array _ _)=>XcB P t fun k=>K (some k)
 | some _=>XcB P t fun k=>match k==1 with|true=>K none|false=>false
 | none=>false
def QaY (P:Program) (t:TypeId) (K:List Value→Nat→Bool):Bool:=
 match P.info? t with
 | some i=>match i.zero with
  | some z=>match plain 3 z&&z.cells.toList.all isCell&&(z.cells.size==i.size) with
   | true=>K z.cells.toList i.bytes
   | false=>false
  | none=>false
 | none=>false
def Zbu (P:Program) (t:Env) (place:Nat→Option (Nat×TypeId)):List (Nat×Operand)→(List (Nat×Option Nat×Value)→Bool)→Bool
 | [],K=>K []
 |(i,x)::r,K=>match place i with
  | some (off,ty)=>XbP P ty fun a=>fV (ev t x) fun v=>Zbu P t place r fun l=>K ((off,a,v)::l)
  | none=>false
def ZgJ (P:Program) (ty:TypeId) (v:Value) (h:Tr) (n:Nat) (K:Nat→Tr→Nat→Bool):Bool:=
 XbP P ty fun a=>match a with
 | some _=>Jf7 v fun cs=>eNew cs .exact h n K
 | none=>isCell v&&eNew [v] .exact h n K
abbrev ECT:=FuncId→List Value→Tr→Nat→EC→Bool
def Xga (C:ECT) (f:Value) (args:List Value) (h:Tr) (n:Nat) (K:EC):Bool:=
 match f with
 | .func (.func f) a b=>fL (a.toList++args++b.toList) fun as=>C f as h n K
 | _=>false
def XeK (t:Env):List Operand→(List Value→Bool)→Bool
 | [],k=>k []
 | x::l,k=>fV (ev t x) fun v=>XeK t l fun vs=>k (v::vs)
theorem Jc9 (t:Env): ∀(l:List Operand) (k:List Value→Bool),XeK t l k=k (l.map (ev t))
 | [],_=>rfl
 | x::l,k=>by simp only [XeK,JcN];rw [Jc9 t l];rfl
def Qee (P:Program) (t:TypeId) (K:EK1):Bool:=
 match P.info? t with
 | some i=>match i.zero with
  | some z=>match plain 3 z with
   | true=>K z
   | false=>false
  | none=>false
 | none=>false
def ZdA (P:Program) (t:TypeId) (K:IntKind→TypeId→Bool):Bool:=
 match P.underlying t with
 | some (.map kt e)=>match P.underlying kt with
  | some (.int kk)=>K kk e
  | _=>false
 | _=>false
def QgK (x y:Value) (K:EK1):Bool:=match x,y with| .int k a,.int k' b=>decide (k=k')&&Zdm (if b<a then b else a) fun i=>K (.int k i)|_,_=>false
def XfY (P:Program) (b:Builtin) (vs:List Value) (tys:List TypeId) (K:EK1):Bool:=
 match b with
 | .cap=>match vs,tys with
  | x::_,ty::_=>match P.underlying ty with
   | some (.slice _)=>QgE x K
   | _=>false
  | _,_=>false
 | .min=>match vs,tys with
  | [x,y],[ty,_]=>match P.underlying ty with
   | some (.int _)=>QgK x y K
   | _=>false
  | _,_=>false
 | _=>false
def eop (P:Program) (C:ECT) (o:Oper) (t:Env) (h:Tr) (n:Nat) (K:EC):Bool:=
 match o.op.operands.toList.all Zc4 with
 | false=>false
 | true=>
  match o.op with
  | .move x| .assign x=>fV (ev t x) fun v=>K v h n
  | .pick c x y=>JfU (ev t c) fun b=>fV (bif b then ev t x else ev t y) fun v=>K v h n
  | .alloc e=>QaY P e fun z _=>eNew z .exact h n fun l h n=>K (ptr l 0) h n
  | .box e x=>ZgJ P e (ev t x) h n fun l h n=>K (ptr l 0) h n
  | .build ty parts=>QaY P ty fun z _=>match P.underlying ty with
   | some (.struct fs)=>match fs.toList.all (fun f=>(P.info? f.type).isSome) with|false=>false|true=>Zbu P t (fun i=>(fs[i]?).map fun f=>(f.offset,f.type)) parts.toList fun l=>Zd2 z l fun cs=>fL cs fun cs=>K (.agg cs.toArray) h n
   | some (.array _ e)=>XcB P e fun k=>Zbu P t (fun i=>some (i*k,e)) parts.toList fun l=>Zd2 z l fun cs=>fL cs fun cs=>K (.agg cs.toArray) h n
   | _=>false
  | .buildSlice ty len parts=>match P.underlying ty with
   | some (.slice e)=>QaY P e fun z _=>match decide (len*z.length≤1000000)&&decide (len≤1000000) with
    | true=>Zbu P t (fun i=>some (i*z.length,e)) parts.toList fun l=>Zd2 (reps len z) l fun cs=>eNew cs .exact h n fun l h n=>K (.slice (some ⟨l,0,none⟩) len len) h n
    | false=>false
   | _=>false
  | .load ty a=>Jf6 (ev t a) fun l o=>XbP P ty fun a=>match a with
   | some k=>Zgy h l o k fun cs=>K (.agg cs.toArray) h n
   | none=>eLd h l o fun v=>K v h n
  | .store ty a x=>Jf6 (ev t a) fun l o=>XbP P ty fun a=>match a with
   | some k=>Jf7 (ev t x) fun cs=>decide (cs.length=k)&&Jgp h l o cs fun h=>K undef h n
   | none=>fV (ev t x) fun v=>eSt h l o v fun h=>K undef h n
  | .nilCheck x=>QgH (ev t x) fun v=>K v h n
  | .binOp op xt x y _=>ZgF (ZeM P xt) op (ev t x) (ev t y) fun v=>K v h n
  | .unOp op _ x=>eUn op (ev t x) fun v=>K v h n
  | .convert src dst x=>match P.underlying src,P.underlying dst with
   | some _,some (.int k)=>XfT k (ev t x) fun v=>K v h n
   | _,_=>false
  | .makeFunc fn first captured=>XeK t first.toList fun a=>XeK t captured.toList fun b=>K (.func fn a.toArray b.toArray) h n
  | .makeSlice ty l c=>match P.underlying ty with
   | some (.slice e)=>QaY P e fun z bytes=>Zgi (ev t l) (ev t c) z bytes h n K
   | _=>false
  | .slice ty x lo hi mx=>match P.underlying ty,hi.isNone&&mx.isSome with
   | some (.slice e),false=>XcB P e fun z=>JeV (ev t x) (lo.map (ev t)) (hi.map (ev t)) (mx.map (ev t)) z fun v=>K v h n
   | _,_=>false
  | .fieldAddr s x f=>match P.underlying s with
   | some (.struct fs)=>match fs[f]? with
    | some fd=>XcB P fd.type fun k=>match k==0 with
     | true=>false
     | false=>QcS (ev t x) fd.offset fun v=>K v h n
    | none=>false
   | _=>false
  | .field xt x f=>match P.underlying xt with
   | some (.struct fs)=>match fs[f]? with
    | some fd=>XbP P fd.type fun a=>Jf7 (ev t x) fun cs=>ZfE cs fd.offset a fun v=>K v h n
    | none=>false
   | _=>false
  | .indexAddr ty x i=>match P.underlying ty with
   | some (.slice e)=>XcB P e fun z=>Jb4 (ev t x) (ev t i) z fun v=>K v h n
   | some (.array len e)=>XcB P e fun z=>Qcs (ev t x) (ev t i) len z fun v=>K v h n
   | _=>false
  | .index xt x i=>match P.underlying xt with
   | some (.array len e)=>XcB P e fun z=>XbP P e fun a=>ZgL (ev t x) (ev t i) len z a fun v=>K v h n
   | some .string=>Zgd (ev t x) (ev t i) fun v=>K v h n
   | _=>false
  | .extract x i=>Jc6 (ev t x) i fun v=>K v h n
  | .call c=>match c.callee with
   | .value f=>XeK t c.args.toList fun as=>Xga C (ev t f) as h n K
   | .invoke _ _=>false
   | .builtin b=>match b,c.args.toList,c.argTypes.toList with
    | .len,x::_,ty::_=>match P.underlying ty with
     | some (.slice _)=>QgA (ev t x) fun v=>K v h n
     | some (.array len _)=>K (.int .i64 len) h n
     | some .string=>Qf5 (ev t x) fun v=>K v h n
     | _=>false
    | .append,s::x::_,ty::tx::_=>match P.underlying ty,P.underlying tx with
     | some (.slice e),some (.slice _)=>QaY P e fun z bytes=>ZdK (ev t s) (ev t x) z.length bytes h n K
     | some (.slice e),some (.int _)=>QaY P e fun z bytes=>Zde (ev t s) (ev t x) z bytes h n K
     | _,_=>false
    | .copy,d::s::_,ty::_=>match P.underlying ty with
     | some (.slice e)=>XcB P e fun z=>Jf1 (ev t d) (ev t s) z h fun v h=>K v h n
     | _=>false
    | .clear,x::_,ty::_=>match P.underlying ty with
     | some (.slice e)=>QaY P e fun z _=>Jff (ev t x) z h fun v h=>K v h n
     | _=>false
    | b',xs,ts=>XfY P b' (xs.map (ev t)) ts fun v=>K v h n
  | .makeMap ty r=>match r with
   | none=>JeN (.map []) h n fun l h n=>K (.map (some l)) h n
   | some x=>match P.underlying ty with
    | some (.map _ _)=>ZfO (ev t x) fun _=>JeN (.map []) h n fun l h n=>K (.map (some l)) h n
    | _=>false
  | .lookup xt x i ok=>ZdA P xt fun kk e=>Qee P e fun z=>Qfg kk (ev t x) (ev t i) z ok h fun v=>K v h n
  | .mapUpdate ty m k x| .insert ty m k x=>ZdA P ty fun kk _=>fV (ev t x) fun x=>Zff kk (ev t m) (ev t k) x h fun h=>K undef h n
  | .mapEntry ty m k=>ZdA P ty fun kk e=>Qee P e fun z=>Xdw kk (ev t m) (ev t k) z h fun v h=>K v h n
  | .entryStore _ m s x=>fV (ev t x) fun x=>Zcv (ev t m) (ev t s) x h fun h=>K undef h n
  | .range xt x=>match P.underlying xt with
   | some (.map _ _)=>Je8 (ev t x) h n fun l h n=>K (ptr l 0) h n
   | _=>false
  | .next it false=>Jgk (ev t it) h fun v h=>K v h n
  | .entry it=>QfP (ev t it) h fun v=>K v h n
  | _=>false
section
variable {h:Tr} {n:Nat}
theorem JaM {t:TypeId} {k:Nat→Bool} {K:Nat→Prop} (hk: ∀b,k b=true→K b) (e:XcB P t k=true):JbS P t K:=by
 unfold XcB at e;unfold JbS
 revert e;generalize P.info? t=u;intro e
 split at e
 ·exact hk _ e
 ·cases e
theorem Xa0 {t:TypeId} {k:Option Nat→Bool} {K:Option Nat→Prop} (hk: ∀b,k b=true→K b) (e:XbP P t k=true):Xak P t K:=by
 unfold XbP at e;unfold Xak
 revert e;generalize P.underlying t=u;intro e
 split at e
 ·exact JaM (fun _=>hk _) e
 ·exact JaM (fun _=>hk _) e
 ·rename_i d h1 h2
  cases d<;>first|exact absurd rfl (h1 _)|exact absurd rfl (h2 _ _)|(refine JaM (fun k e=> ?_) e;revert e;generalize (k==1)=b;intro e;cases b;cases e;exact hk _ e)
 ·cases e
theorem XaE {t:TypeId} {k:List Value→Nat→Bool} {K:List Value→Nat→Prop} (hk: ∀z b,k z b=true→K z b) (e:QaY P t k=true):zeroOf P t K:=by
 unfold QaY at e;unfold zeroOf
 revert e;generalize P.info? t=u;intro e
 cases u with
 | none=>cases e
 | some i=>
  simp only at e ⊢
  revert e;generalize i.zero=u;intro e
  cases u with
  | none=>cases e
  | some z=>
   simp only at e ⊢
   revert e;generalize (plain 3 z&&z.cells.toList.all isCell&&(z.cells.size==i.size))=b;intro e
   cases b
   ·cases e
   ·exact hk _ _ e
theorem Jbs {t:Env} {pl:Nat→Option (Nat×TypeId)}: ∀{parts:List (Nat×Operand)} {k:List (Nat×Option Nat×Value)→Bool} {K:List (Nat×Option Nat×Value)→Prop},(∀l,k l=true→K l)→Zbu P t pl parts k=true→partsOf P t pl parts K
 | [],k,K,hk,e=>hk _ e
 |(i,x)::r,k,K,hk,e=>by
  simp only [Zbu,JcN] at e
  simp only [partsOf]
  revert e;generalize pl i=u;intro e
  split at e
  ·exact Xa0 (fun a=>Jbs (fun l=>hk _)) e
  ·cases e
theorem Xgr {ty:TypeId} {v:Value} {k:Nat→Tr→Nat→Bool} {K:Nat→G→Nat→Prop} (hk: ∀l h n,k l h n=true→K l h.get n) (e:ZgJ P ty v h n k=true):Qgg P ty v h.get n K:=by
 refine Xa0 (fun a e=> ?_) e
 cases a with
 | none=>simp only [Bool.and_eq_true] at e;exact ⟨e.1,Xcb hk e.2⟩
 | some z=>exact Qds (fun _=>Xcb hk) e
theorem Jef {t:TypeId} {k:EK1} {K:Value→Prop} (hk: ∀z,k z=true→K z) (e:Qee P t k=true):Zda P t K:=by
 unfold Qee at e;unfold Zda
 revert e;generalize P.info? t=u;intro e
 cases u with
 | none=>cases e
 | some i=>
  simp only at e ⊢
  revert e;generalize i.zero=u;intro e
  cases u with
  | none=>cases e
  | some z=>
   simp only at e ⊢
   revert e;generalize plain 3 z=b;intro e
   cases b
   ·cases e
   ·exact hk _ e
theorem Qco {t:TypeId} {k:IntKind→TypeId→Bool} {K:IntKind→TypeId→Prop} (hk: ∀a b,k a b=true→K a b) (e:ZdA P t k=true):mapOf P t K:=by
 unfold ZdA at e;unfold mapOf
 split at e
 ·rename_i hu
  simp only [hu]
  split at e
  ·rename_i hk2;simp only [hk2];exact hk _ _ e
  ·cases e
 ·cases e
theorem Xf7 {b:Builtin} {vs:List Value} {tys:List TypeId} {k:EK1} {K:Value→Prop} (hk: ∀z,k z=true→K z) (e:XfY P b vs tys k=true):Zdt P b vs tys K:=by
 unfold XfY at e;unfold Zdt
 split at e
 ·split at e
  ·revert e;rename_i ty _;try simp only
   generalize P.underlying ty=u;intro e
   split at e
   ·exact Jgs hk e
   ·cases e
  ·cases e
 ·split at e
  ·revert e;try simp only
   rename_i ty _
   generalize P.underlying ty=u;intro e
   split at e
   ·unfold QgK at e;unfold Xgy
    split at e
    ·simp only [Bool.and_eq_true,decide_eq_true_eq,Xb5] at e;exact ⟨e.1,hk _ e.2⟩
    ·cases e
   ·cases e
  ·cases e
 ·cases e
def CTR (D:ECT) (C:CT):Prop:= ∀f args h n (k:EC) (K:Cont),(∀v h n,k v h n=true→K v h.get n)→D f args h n k=true→C f args h.get n K
theorem Xgd {D:ECT} {C:CT} (hC:CTR D C) {f:Value} {args:List Value} {k:EC} {K:Cont} (hk: ∀v h n,k v h n=true→K v h.get n) (e:Xga D f args h n k=true):Zbl C f args h.get n K:=by
 unfold Xga at e;unfold Zbl
 split at e
 ·rw [JcP] at e;exact hC _ _ _ _ _ _ hk e
 ·cases e
theorem Xgt {D:ECT} {C:CT} (hC:CTR D C) {o:Oper} {t:Env} {k:EC} {K:Cont} (hk: ∀v h n,k v h n=true→K v h.get n) (e:eop P D o t h n k=true):aop P C o t h.get n K:=by
 unfold eop at e;unfold aop
 revert e
 generalize o.op.operands.toList.all Zc4=b
 generalize o.op=op
 intro e
 cases b
 ·cases e
 simp only at e ⊢
 cases op with
 | move x=>simp only [JcN] at e;exact hk _ _ _ e
 | assign x=>simp only [JcN] at e;exact hk _ _ _ e
 | pick c x y=>exact JfZ (fun b e=>by rw [JcN] at e;exact hk _ _ _ e) e
 | alloc ty=>exact XaE (fun z b e=>Xcb (fun l h n e=>hk _ _ _ e) e) e
 | box ty x=>exact Xgr (fun l h n e=>hk _ _ _ e) e
 | build ty parts=>
  refine XaE (fun z b e=> ?_) e
  revert e;generalize P.underlying ty=u;intro e
  split at e
  ·rename_i fs
   revert e;generalize hb:fs.toList.all (fun f=>(P.info? f.type).isSome)=b;intro e
   cases b
   ·cases e
   ·simp only [hb]
    exact Jbs (fun l e=>XcF (fun cs e=>by rw [JcP] at e;exact hk _ _ _ e) e) e
  ·exact JaM (fun _ e=>Jbs (fun l e=>XcF (fun cs e=>by rw [JcP] at e;exact hk _ _ _ e) e) e) e
  ·cases e
 | buildSlice ty len parts=>
  simp only at e ⊢
  revert e;generalize P.underlying ty=u;intro e
  split at e
  ·refine XaE (fun z b e=> ?_) e
   revert e;generalize (decide (len*z.length≤1000000)&&decide (len≤1000000))=b;intro e
   cases b
   ·cases e
   ·exact Jbs (fun l e=>XcF (fun cs e=>Xcb (fun l h n e=>hk _ _ _ e) e) e) e
  ·cases e
 | load ty a=>
  refine QdI (fun l o e=>Xa0 (fun a e=> ?_) e) e
  cases a with
  | none=>exact JdK (fun v e=>hk _ _ _ e) e
  | some z=>exact Jfd (fun v e=>hk _ _ _ e) e
 | store ty a x=>
  refine QdI (fun l o e=>Xa0 (fun a e=> ?_) e) e
  cases a with
  | none=>simp only [JcN] at e;exact QeG (fun h e=>hk _ _ _ e) e
  | some z=>exact Qds (fun cs e=>by simp only [Bool.and_eq_true,decide_eq_true_eq] at e;exact ⟨e.1,Qel (fun h e=>hk _ _ _ e) e.2⟩) e
 | nilCheck x=>exact Jgu (fun v e=>hk _ _ _ e) e
 | binOp op xt x y s=>exact Zgs (fun v e=>hk _ _ _ e) e
 | unOp op ty x=>exact QgC (fun v e=>hk _ _ _ e) e
 | convert src dst x=>
  simp only at e ⊢
  revert e;generalize P.underlying src=u;generalize P.underlying dst=v;intro e
  split at e
  ·exact Jf8 (fun v e=>hk _ _ _ e) e
  ·cases e
 | makeFunc fn first captured=>
  simp only [Jc9] at e
  have e2: ∀a:Array Operand,(a.toList.map (ev t)).toArray=a.map (ev t):=by intro a;cases a;simp
  rw [e2,e2] at e
  exact hk _ _ _ e
 | makeSlice ty l c=>
  simp only at e ⊢
  revert e;generalize P.underlying ty=u;intro e
  split at e
  ·exact XaE (fun z b e=>JfS hk e) e
  ·cases e
 | slice ty x lo hi mx=>
  simp only at e ⊢
  revert e;generalize P.underlying ty=u;generalize (hi.isNone&&mx.isSome)=b;intro e
  split at e
  ·exact JaM (fun z e=>Qfx (fun v e=>hk _ _ _ e) e) e
  ·cases e
 | fieldAddr s x f=>
  simp only at e ⊢
  revert e;generalize P.underlying s=u;intro e
  split at e
  ·rename_i fs
   revert e;try simp only
   generalize fs[f]? =w;intro e
   split at e
   ·refine JaM (fun z e=> ?_) e
    revert e;generalize (z==0)=b;intro e
    cases b
    ·exact Jdu (fun v e=>hk _ _ _ e) e
    ·cases e
   ·cases e
  ·cases e
 | field xt x f=>
  simp only at e ⊢
  revert e;generalize P.underlying xt=u;intro e
  split at e
  ·rename_i fs
   revert e;try simp only
   generalize fs[f]? =w;intro e
   split at e
   ·exact Xa0 (fun a e=>Qds (fun cs e=>ZeT (fun v e=>hk _ _ _ e) e) e) e
   ·cases e
  ·cases e
 | indexAddr ty x i=>
  simp only at e ⊢
  revert e;generalize P.underlying ty=u;intro e
  split at e
  ·exact JaM (fun z e=>Xdo (fun v e=>hk _ _ _ e) e) e
  ·exact JaM (fun z e=>Zd3 (fun v e=>hk _ _ _ e) e) e
  ·cases e
 | index xt x i=>
  simp only at e ⊢
  revert e;generalize P.underlying xt=u;intro e
  split at e
  ·exact JaM (fun z e=>Xa0 (fun a e=>Jgi (fun v e=>hk _ _ _ e) e) e) e
  ·exact Zf7 (fun v e=>hk _ _ _ e) e
  ·cases e
 | extract x i=>exact Qey (fun v e=>hk _ _ _ e) e
 | call c=>
  simp only at e ⊢
  revert e;generalize c.callee=cl;intro e
  cases cl with
  | value f=>simp only [Jc9] at e;exact Xgd hC hk e
  | invoke _ _=>cases e
  | builtin b=>
   simp only at e ⊢
   revert e;generalize c.args.toList=as;generalize c.argTypes.toList=ts;intro e
   split at e
   ·revert e;rename_i ty _;simp only;generalize P.underlying ty=u;intro e
    split at e
    ·exact Jgn (fun v e=>hk _ _ _ e) e
    ·exact hk _ _ _ e
    ·exact Qga (fun v e=>hk _ _ _ e) e
    ·cases e
   ·rename_i ty tx _
    revert e;try simp only
    generalize P.underlying ty=u;generalize P.underlying tx=w;intro e
    split at e
    ·exact XaE (fun z b e=>QeR hk e) e
    ·exact XaE (fun z b e=>JeB hk e) e
    ·cases e
   ·rename_i ty _
    revert e;try simp only
    generalize P.underlying ty=u;intro e
    split at e
    ·exact JaM (fun z e=>Jgb (fun v h e=>hk _ _ _ e) e) e
    ·cases e
   ·rename_i ty _
    revert e;try simp only
    generalize P.underlying ty=u;intro e
    split at e
    ·exact XaE (fun z b e=>Xfv (fun v h e=>hk _ _ _ e) e) e
    ·cases e
   ·rename_i n1 n2 n3 n4
    split
    ·exact (n1 _ _ _ _ rfl rfl rfl).elim
    ·exact (n2 _ _ _ _ _ _ rfl rfl rfl).elim
    ·exact (n3 _ _ _ _ _ rfl rfl rfl).elim
    ·exact (n4 _ _ _ _ rfl rfl rfl).elim
    ·exact Xf7 (fun v e=>hk _ _ _ e) e
 | makeMap ty r=>
  cases r with
  | none=>exact QdQ (fun l h n e=>hk _ _ _ e) e
  | some x=>
   simp only at e ⊢
   revert e;generalize P.underlying ty=u;intro e
   split at e
   ·exact ZcZ (fun _ e=>QdQ (fun l h n e=>hk _ _ _ e) e) e
   ·cases e
 | lookup xt x i ok=>exact Qco (fun _ _ e=>Jef (fun z e=>Xfj (fun v e=>hk _ _ _ e) e) e) e
 | mapUpdate ty m k x=>exact Qco (fun _ _ e=>by rw [JcN] at e;exact Zdn (fun h e=>hk _ _ _ e) e) e
 | insert ty m k x=>exact Qco (fun _ _ e=>by rw [JcN] at e;exact Zdn (fun h e=>hk _ _ _ e) e) e
 | mapEntry ty m k=>exact Qco (fun _ _ e=>Jef (fun z e=>JdL (fun v h e=>hk _ _ _ e) e) e) e
 | entryStore ty m s x=>simp only [JcN] at e;exact Qc8 (fun h e=>hk _ _ _ e) e
 | range xt x=>
  simp only at e ⊢
  revert e;generalize P.underlying xt=u;intro e
  split at e
  ·exact ZfH (fun l h n e=>hk _ _ _ e) e
  ·cases e
 | next it b=>
  cases b with
  | true=>cases e
  | false=>exact Qf9 (fun v h e=>hk _ _ _ e) e
 | entry it=>exact Zfy (fun v e=>hk _ _ _ e) e
 | _=>cases e
end
end Go.Proofs.YtmchcjaomcdbmaaGreat.Abs
namespace Go.Proofs.YtmchcjaomcdbmaaGreat.Abs
open Go Go.RowKit
variable {P:Program}
abbrev EE:=List Value→Tr→Nat→Bool
abbrev EQ:=Exit→List Value→Tr→Nat→Bool
def Jei (v:Value) (a b:Bool):Bool:=match v with| .bool true=>a| .bool false=>b|_=>false
def Xe4 (gd:Bool) (t:List Value) (dst:Option Tmp) (v:Value) (K:List Value→Bool):Bool:=
 match gd with
 | true=>Jei v (QfW t dst (.bool true) K) (QfW t dst (.bool false) K)
 | false=>QfW t dst v K
def QcG (ops:Array Oper) (o:Oper) (t:Env) (a b:Bool):Bool:=
 match o.guard with
 | none=>a
 | some (j,want)=>match (ops[j]?).bind (·.dst) with
  | some d=>match t d with
   | .bool c=>bif c==want then a else b
   | .tuple _=>b
   | _=>false
  | none=>false
def Jgg (P:Program) (C:ECT) (N:Nat) (ops:Array Oper) (K:EE):List Oper→Nat→List Value→Tr→Nat→Bool
 | [],_,t,h,n=>K t h n
 | o::rest,i,t,h,n=>
  match JcD N o.dst with
  | false=>false
  | true=>
   QcG ops o (XcP t)
    (eop P C o (XcP t) h n fun v h n=>Xe4 (guarded rest i) t o.dst v fun t=>Jgg P C N ops K rest (i+1) t h n)
    (QfW t o.dst undef fun t=>Jgg P C N ops K rest (i+1) t h n)
def Xfx:Addr→Addr→Bool
 |⟨l,o,none⟩,⟨l',o',none⟩=>Nat.beq l l'&&Nat.beq o o'
 | _,_=>false
def JdC:Value→Value→Bool
 | .string a,.string b=>Xav a.data.toList b.data.toList
 | .int k i,.int k' i'=>decide (k=k')&&decide (i=i')
 | .bool b,.bool b'=>b==b'
 | .pointer none,.pointer none=>true
 | .pointer (some a),.pointer (some a')=>Xfx a a'
 | .slice none n c,.slice none n' c'=>Nat.beq n n'&&Nat.beq c c'
 | .slice (some a) n c,.slice (some a') n' c'=>Xfx a a'&&(Nat.beq n n'&&Nat.beq c c')
 | _,_=>false
def XdT:List Value→List Value→Bool
 | [],[]=>true
 | x::xs,y::ys=>JdC x y&&XdT xs ys
 | _,_=>false
def Jf0:BK→BK→Bool
 | .ro,.ro=>true
 | .exact,.exact=>true
 | .loose z,.loose z'=>Nat.beq z z'
 | _,_=>false
def Zf3:Option Blk→Option Blk→Bool
 | some (.cells cs k),some (.cells cs' k')=>Jf0 k k'&&XdT cs cs'
 | _,_=>false
theorem JeR {a b:Addr} (h:Xfx a b=true):a=b:=by
 unfold Xfx at h
 split at h
 ·simp only [QeM,Bool.and_eq_true,decide_eq_true_eq] at h;rw [h.1,h.2]
 ·cases h
theorem QcC {a b:Value} (h:JdC a b=true):a=b:=by
 unfold JdC at h
 split at h
 ·rename_i a b
  have:=JbF h
  cases a;cases b
  simp only at this
  congr 2
  exact Array.ext' this
 ·simp only [Bool.and_eq_true,decide_eq_true_eq] at h;rw [h.1,h.2]
 ·rw [beq_iff_eq.1 h]
 ·rfl
 ·rw [JeR h]
 ·simp only [QeM,Bool.and_eq_true,decide_eq_true_eq] at h;rw [h.1,h.2]
 ·simp only [QeM,Bool.and_eq_true,decide_eq_true_eq] at h;rw [JeR h.1,h.2.1,h.2.2]
 ·cases h
theorem Zd0: ∀{a b:List Value},XdT a b=true→a=b
 | [],[],_=>rfl
 | x::xs,y::ys,h=>by
  simp only [XdT,Bool.and_eq_true] at h
  rw [QcC h.1,Zd0 h.2]
 | [],_::_,h=>by cases h
 | _::_,[],h=>by cases h
theorem Qf6 {a b:Option Blk} (h:Zf3 a b=true):a=b:=by
 unfold Zf3 at h
 split at h
 ·rename_i cs k cs' k'
  simp only [Bool.and_eq_true] at h
  have:k=k':=by
   have h:=h.1
   unfold Jf0 at h
   split at h
   ·rfl
   ·rfl
   ·simp only [QeM,decide_eq_true_eq] at h;rw [h]
   ·cases h
  rw [this,Zd0 h.2]
 ·cases h
def QgI (ops:Array Oper) (t:Env) (h h':Tr) (o:Oper):Bool:=
 match o.op with
 | .load _ a=>QcG ops o t (Jf6 (ev t a) fun l _=>Zf3 (h'.get l) (h.get l)) true
 | _=>true
def JfD (ops:Array Oper) (t:Env) (h h':Tr):List Oper→Bool
 | []=>true
 | o::os=>QgI ops t h h' o&&JfD ops t h h' os
def Jgx (P:Program) (C:ECT) (N:Nat) (ops:Array Oper) (o:Oper) (guards:Bool) (t:List Value) (h:Tr) (n:Nat) (chk:Tr→Bool) (K:EE):Bool:=
 match JcD N o.dst with
 | false=>false
 | true=>
  QcG ops o (XcP t)
   (eop P C o (XcP t) h n fun v h n=>chk h&&Xe4 guards t o.dst v fun t=>K t h n)
   (QfW t o.dst undef fun t=>K t h n)
def Jgq (P:Program) (C:ECT) (N:Nat) (ops:Array Oper) (bef:List Nat) (K:List Bool→EE):List Nat→List Bool→EE
 | [],ld,t,h,n=>K ld t h n
 | i::is,ld,t,h,n=>
  match ops.toList[i]? with
  | none=>false
  | some o=>match !ld.getD i true&& !Xaw o.op&&Jal ops.toList bef ld i with
   | false=>Jgq P C N ops bef K is ld t h n
   | true=>Jgx P C N ops o (guarded ops.toList i) t h n (fun _=>true) fun t h n=>Jgq P C N ops bef K is (ld.set i true) t h n
def JfB (F:Nat→Bool):List Nat→Bool
 | []=>true
 | [e]=>F e
 | e::es=>F e&&JfB F es
def Qft (P:Program) (C:ECT) (N:Nat) (ops:Array Oper) (bef:List Nat) (K:EE):Nat→List Bool→EE
 | 0,_,_,_,_=>false
 | k+1,ld,t,h,n=>
  Jgq P C N ops bef (fun ld t h n=>
   match nexts ops.toList bef ld with
   | []=>K t h n
   | es=>JfB (fun e=>match ops.toList[e]? with
    | none=>false
    | some o=>Jgx P C N ops o (guarded ops.toList e) t h n (fun h'=>JfD ops (XcP t) h h' (Qes ops.toList bef ld e)) fun t h n=>Qft P C N ops bef K k (ld.set e true) t h n) es)
   (List.range ops.size) ld t h n
def JdQ (P:Program) (C:ECT) (N:Nat) (ops:Array Oper) (K:EE) (t:List Value) (h:Tr) (n:Nat):Bool:=
 match Qdx ops.toList (ZC ops.toList)&&XcW N ops with
 | false=>false
 | true=>Qft P C N ops (ZC ops.toList) K (ops.size+1) (List.replicate ops.size false) t h n
def Qed (K:EE) (Q:EQ):EQ
 | .normal,t,h,n=>K t h n
 | e,t,h,n=>Q e t h n
def QdZ (id:Nat) (Q:EQ):EQ
 | .exit i,t,h,n=>match i==id with|true=>Q .normal t h n|false=>Q (.exit i) t h n
 | e,t,h,n=>Q e t h n
def ZfU (F:EE→EE):Nat→EE
 | 0=>fun _ _ _=>false
 | k+1=>fun t h n=>F (ZfU F k) t h n
def ZcA (P:Program) (fuel:Nat) (C:ECT) (N:Nat):Code→EQ→EE
 | .skip,Q=>Q .normal
 | .region _ ops false,Q=>fun t h n=>match XcW N ops with
  | false=>false
  | true=>Jgg P C N ops (Q .normal) ops.toList 0 t h n
 | .region _ ops true,Q=>JdQ P C N ops (Q .normal)
 | .seq a b,Q=>ZcA P fuel C N a (Qed (ZcA P fuel C N b Q) Q)
 | .cond c a b,Q=>fun t h n=>match Zc4 c with
  | false=>false
  | true=>Jei (ev (XcP t) c) (ZcA P fuel C N a Q t h n) (ZcA P fuel C N b Q t h n)
 | .block id c,Q=>ZcA P fuel C N c (QdZ id Q)
 | .loop c,Q=>ZfU (fun I=>ZcA P fuel C N c (Qed I Q)) fuel
 | .exit id,Q=>Q (.exit id)
 | .ret,Q=>Q .ret
 | _,_=>fun _ _ _=>false
def Zgf (P:Program) (t:Env) (h:Tr):List ResultVar→(List Value→Bool)→Bool
 | [],K=>K []
 | .tmp i::r,K=>fV (t i) fun v=>Zgf P t h r fun vs=>K (v::vs)
 | .cell a ty::r,K=>Jf6 (t a) fun l o=>XbP P ty fun ag=>match ag with
  | some k=>Zgy h l o k fun cs=>Zgf P t h r fun vs=>K (.agg cs.toArray::vs)
  | none=>eLd h l o fun v=>Zgf P t h r fun vs=>K (v::vs)
def Jgt (P:Program) (rs:List ResultVar) (K:EC):EQ
 | .normal,t,h,n| .ret,t,h,n=>Zgf P (XcP t) h rs fun vs=>K (tup vs) h n
 | _,_,_,_=>false
def Zf2 (P:Program) (fuel:Nat) (C:ECT) (f:FuncId) (args:List Value) (h:Tr) (n:Nat) (K:EC):Bool:=
 match P.funcs[f]? with
 | some fn=>match fn.body,fn.name== "runtime.NumGoroutine",decide (args.length≤fn.ntmps) with
  | some c,false,true=>fL (args++List.replicate (fn.ntmps-args.length) undef) fun t=>ZcA P fuel C fn.ntmps c (Jgt P fn.results.toList K) t h n
  | _,_,_=>false
 | none=>false
abbrev EH:=FuncId→Option (ECT→List Value→Tr→Nat→EC→Bool)
def ZaN (P:Program) (H:EH) (fuel:Nat):Nat→ECT
 | 0=>fun _ _ _ _ _=>false
 | k+1=>fun f args h n K=>match H f with
  | some e=>e (ZaN P H fuel k) args h n K
  | none=>Zf2 P fuel (ZaN P H fuel k) f args h n K
section
variable {h:Tr} {n:Nat}
theorem Qeg {v:Value} {a b:Bool} {A B:Prop} (ha:a=true→A) (hb:b=true→B) (e:Jei v a b=true):Qa v A B:=by
 unfold Jei at e;unfold Qa;split at e<;>first|exact ha e|exact hb e|cases e
theorem Qdo {t:List Value} {d:Option Tmp} {v:Value} {k:List Value→Bool} {K:Env→Prop} (hk: ∀t',k t'=true→K (XcP t')) (e:QfW t d v k=true):K (put (XcP t) d v):=by
 obtain ⟨t',h1,_,h2⟩:=Qgv e
 rw [←h1];exact hk _ h2
theorem Jec {gd:Bool} {t:List Value} {d:Option Tmp} {v:Value} {k:List Value→Bool} {K:Env→Prop} (hk: ∀t',k t'=true→K (XcP t')) (e:Xe4 gd t d v k=true):Jcc gd (XcP t) d v K:=by
 cases gd with
 | true=>exact Qeg (Qdo hk) (Qdo hk) e
 | false=>exact Qdo hk e
theorem ZcC {ops:Array Oper} {o:Oper} {t:Env} {a b:Bool} {A B:Prop} (ha:a=true→A) (hb:b=true→B) (e:QcG ops o t a b=true):Xx ops o t A B:=by
 unfold QcG at e;unfold Xx
 revert e;generalize o.guard=gd;intro e
 split at e
 ·exact ha e
 ·rename_i j want
  revert e;try simp only
  generalize (ops[j]?).bind (·.dst)=u;intro e
  split at e
  ·rename_i d
   revert e;try simp only
   generalize t d=v;intro e
   split at e
   ·rename_i c
    revert e;try simp only
    generalize (c==want)=b;intro e
    cases b
    ·exact hb e
    ·exact ha e
   ·exact hb e
   ·cases e
  ·cases e
def KR (k:EE) (K:Qn):Prop:= ∀t h n,k t h n=true→K (XcP t) h.get n
theorem Jfc {D:ECT} {C:CT} (hC:CTR D C) {N:Nat} {ops:Array Oper} {k:EE} {K:Qn} (hk:KR k K): ∀(l:List Oper) (i:Nat) (t:List Value) (h:Tr) (n:Nat),Jgg P D N ops k l i t h n=true→Xd3 P C N ops K l i (XcP t) h.get n
 | [],i,t,h,n,e=>hk _ _ _ e
 | o::rest,i,t,h,n,e=>by
  simp only [Jgg] at e
  simp only [Xd3]
  revert e;generalize JcD N o.dst=b;intro e
  cases b
  ·cases e
  ·exact ZcC (Xgt hC fun v h n=>Jec (K:=fun t=>Xd3 P C N ops K rest (i+1) t h.get n) fun t'=>Jfc hC hk rest (i+1) t' h n)
    (Qdo (K:=fun t=>Xd3 P C N ops K rest (i+1) t h.get n) fun t'=>Jfc hC hk rest (i+1) t' h n) e
theorem Qgk {ops:Array Oper} {t:Env} {h h':Tr} {o:Oper} (e:QgI ops t h h' o=true):Xgh ops t h.get h'.get o:=by
 unfold QgI at e;unfold Xgh
 revert e;generalize o.op=op;intro e
 cases op with
 | load ty a=>exact ZcC (QdI fun l o e=>Qf6 e) (fun _=>trivial) e
 | _=>trivial
theorem Qfe {ops:Array Oper} {t:Env} {h h':Tr} {p:Prop} (hp:p): ∀{l:List Oper},JfD ops t h h' l=true→Jdy ops t h.get h'.get l p
 | [],_=>hp
 | o::os,e=>by
  simp only [JfD,Bool.and_eq_true] at e
  exact ⟨Qgk e.1,Qfe hp e.2⟩
theorem JfQ {D:ECT} {C:CT} (hC:CTR D C) {N:Nat} {ops:Array Oper} {o:Oper} {gd:Bool} {t:List Value} {after:G→Prop→Prop} {chk:Tr→Bool} (ha: ∀h p,chk h=true→p→after h.get p) {k:EE} {K:Qn} (hk:KR k K) (e:Jgx P D N ops o gd t h n chk k=true):JeY P C N ops o gd (XcP t) h.get n after K:=by
 unfold Jgx at e;unfold JeY
 revert e;generalize JcD N o.dst=b;intro e
 cases b
 ·cases e
 ·exact ZcC (Xgt hC fun v h n e=>by
     simp only [Bool.and_eq_true] at e
     exact ha _ _ e.1 (Jec (K:=fun t=>K t h.get n) (fun t'=>hk t' h n) e.2))
    (Qdo (K:=fun t=>K t h.get n) fun t'=>hk t' h n) e
theorem Zfj {D:ECT} {C:CT} (hC:CTR D C) {N:Nat} {ops:Array Oper} {bef:List Nat} {k:List Bool→EE} {K:List Bool→Qn} (hk: ∀ld,KR (k ld) (K ld)): ∀(is:List Nat) (ld:List Bool),KR (Jgq P D N ops bef k is ld) (QeL P C N ops bef K is ld)
 | [],ld=>hk ld
 | i::is,ld=>fun t h n e=>by
  simp only [Jgq] at e
  simp only [QeL]
  revert e;generalize ops.toList[i]? =u;intro e
  cases u with
  | none=>cases e
  | some o=>
   revert e;try simp only
   generalize (!ld.getD i true&& !Xaw o.op&&Jal ops.toList bef ld i)=b;intro e
   cases b
   ·exact Zfj hC hk is ld t h n e
   ·exact JfQ hC (fun _ _ _ p=>p) (Zfj hC hk is _) e
theorem Xe3 {f:Nat→Bool} {F:Nat→Prop} (hf: ∀i,f i=true→F i): ∀(l:List Nat),JfB f l=true→QdY F l
 | [],_=>trivial
 | [e],h=>hf _ h
 | e::e2::es,h=>by
  simp only [JfB,Bool.and_eq_true] at h
  exact ⟨hf _ h.1,Xe3 hf (e2::es) h.2⟩
theorem ZeS {D:ECT} {C:CT} (hC:CTR D C) {N:Nat} {ops:Array Oper} {bef:List Nat} {k:EE} {K:Qn} (hk:KR k K): ∀(d:Nat) (ld:List Bool),KR (Qft P D N ops bef k d ld) (Xcf P C N ops bef K d ld)
 | 0,ld=>fun _ _ _ e=>by cases e
 | d+1,ld=>fun t h n e=>by
  simp only [Qft] at e
  simp only [Xcf]
  refine Zfj hC (fun ld t h n e=> ?_) _ _ t h n e
  revert e;generalize nexts ops.toList bef ld=u;intro e
  cases u with
  | nil=>exact hk _ _ _ e
  | cons i0 is=>
   refine Xe3 (fun i e=> ?_) (i0::is) e
   revert e;generalize ops.toList[i]? =u;intro e
   cases u with
   | none=>cases e
   | some o=>
    exact JfQ hC (fun h' p hc hp=>Qfe hp hc) (ZeS hC hk d _) e
theorem JeS {D:ECT} {C:CT} (hC:CTR D C) {N:Nat} {ops:Array Oper} {k:EE} {K:Qn} (hk:KR k K):KR (JdQ P D N ops k) (Jbm P C N ops K):=fun t h n e=>by
 unfold JdQ at e;unfold Jbm
 revert e;generalize (Qdx ops.toList (ZC ops.toList)&&XcW N ops)=b;intro e
 cases b
 ·cases e
 ·exact ZeS hC hk _ _ t h n e
def QR (q:EQ) (Q:JaH):Prop:= ∀x,KR (q x) (Q x)
theorem Qek {k:EE} {K:Qn} {q:EQ} {Q:JaH} (hk:KR k K) (hq:QR q Q):QR (Qed k q) (XcM K Q):=fun x=>by
 cases x<;>first|exact hk|exact hq _
theorem Xfm {q:EQ} {Q:JaH} {id:Nat} (hq:QR q Q):QR (QdZ id q) (Qcc id Q):=fun x=>by
 cases x with
 | exit i=>intro t h n e;simp only [QdZ] at e;simp only [Qcc];revert e;generalize (i==id)=b;intro e;cases b<;>exact hq _ t h n e
 | _=>exact hq _
theorem QfY {fuel:Nat} {D:ECT} {C:CT} (hC:CTR D C) {N:Nat}: ∀(c:Code) {q:EQ} {Q:JaH},QR q Q→KR (ZcA P fuel D N c q) (J9 P C N c Q):=by
 intro c
 induction c with
 | skip=>intro q Q hq;exact hq _
 | exit id=>intro q Q hq;exact hq _
 | ret=>intro q Q hq;exact hq _
 | region id ops draw=>
  intro q Q hq
  cases draw with
  | false=>
   intro t h n e
   simp only [ZcA] at e
   simp only [J9]
   revert e;generalize XcW N ops=b;intro e
   cases b
   ·cases e
   ·exact Jfc hC (hq _) _ _ t h n e
  | true=>exact JeS hC (hq _)
 | seq a b iha ihb=>intro q Q hq;exact iha (Qek (ihb hq) hq)
 | cond c a b iha ihb=>
  intro q Q hq t h n e
  simp only [ZcA] at e
  simp only [J9]
  revert e;generalize Zc4 c=b;intro e
  cases b
  ·cases e
  ·exact Qeg (iha hq t h n) (ihb hq t h n) e
 | block id c ih=>intro q Q hq;exact ih (Xfm hq)
 | loop c ih=>
  intro q Q hq t h n e
  intro I hI
  have: ∀d,KR (ZfU (fun I=>ZcA P fuel D N c (Qed I q)) d) I:=by
   intro d
   induction d with
   | zero=>intro t h n e;cases e
   | succ d ihd=>intro t h n e;exact hI _ _ _ (ih (Qek ihd hq) t h n e)
  exact this fuel t h n e
 | _=>intro q Q hq t h n e;cases e
theorem Zds {t:Env}: ∀{rs:List ResultVar} {k:List Value→Bool} {K:List Value→Prop},(∀l,k l=true→K l)→Zgf P t h rs k=true→ZeL P t h.get rs K
 | [],k,K,hk,e=>hk _ e
 | .tmp i::r,k,K,hk,e=>by
  simp only [Zgf,JcN] at e
  exact Zds (rs:=r) (k:=fun vs=>k (t i::vs)) (K:=fun vs=>K (t i::vs)) (fun _=>hk _) e
 | .cell a ty::r,k,K,hk,e=>by
  refine QdI (fun l o e=>Xa0 (fun ag e=> ?_) e) e
  cases ag with
  | none=>exact JdK (fun _ e=>Zds (fun _=>hk _) e) e
  | some z=>exact Jfd (fun _ e=>Zds (fun _=>hk _) e) e
theorem Zf9 {rs:List ResultVar} {k:EC} {K:Cont} (hk: ∀v h n,k v h n=true→K v h.get n):QR (Jgt P rs k) (Qgf P rs K):=fun x t h n e=>by
 cases x with
 | normal=>exact Zds (fun vs e=>⟨_,Sub.refl _,hk _ _ _ e⟩) e
 | ret=>exact Zds (fun vs e=>⟨_,Sub.refl _,hk _ _ _ e⟩) e
 | _=>cases e
theorem JeX (args:List Value) (m:Nat):XcP (args++List.replicate m undef)=Qq args:=by
 funext i
 simp only [XcP,Qq,List.getD_eq_getElem?_getD]
 by_cases hi:i<args.length
 ·rw [List.getElem?_append_left hi]
 ·rw [List.getElem?_append_right (by omega),List.getElem?_eq_none (l:=args) (by omega)]
  simp only [List.getElem?_replicate]
  split<;>rfl
theorem ZfV {fuel:Nat} {D:ECT} {C:CT} (hC:CTR D C):CTR (Zf2 P fuel D) (Zg P C):=fun f args h n k K hk e=>by
 unfold Zf2 at e;unfold Zg
 revert e;generalize P.funcs[f]? =u;intro e
 cases u with
 | none=>cases e
 | some fn=>
  revert e;try simp only
  generalize hb:fn.body=b;generalize (fn.name== "runtime.NumGoroutine")=c;generalize decide (args.length≤fn.ntmps)=d;intro e
  split at e
  ·rw [JcP] at e
   have:=QfY hC _ (Zf9 hk) _ _ _ e
   rw [JeX] at this
   exact this
  ·cases e
def HOk (H:EH) (C:CT):Prop:= ∀f e,H f=some e→ ∀D:ECT,CTR D C→ ∀args h n (k:EC) (K:Cont),(∀v h n,k v h n=true→K v h.get n)→e D args h n k=true→C f args h.get n K
theorem QbR {fuel:Nat} {H:EH} {C:CT} (hB: ∀f args g n K,Zg P C f args g n K→C f args g n K) (hH:HOk H C): ∀d,CTR (ZaN P H fuel d) C
 | 0=>fun _ _ _ _ _ _ _ e=>by cases e
 | d+1=>fun f args h n k K hk e=>by
  simp only [ZaN] at e
  cases hf:H f with
  | none=>rw [hf] at e;exact hB _ _ _ _ _ (ZfV (QbR hB hH d) f args h n k K hk e)
  | some x=>rw [hf] at e;exact hH f x hf _ (QbR hB hH d) args h n k K hk e
end
end Go.Proofs.YtmchcjaomcdbmaaGreat.Abs
namespace Go.Proofs.YtmchcjaomcdbmaaGreat.Abs
open Go Go.RowKit
variable {P:Program}
def Xei:Value→Value→Bool
 | .agg xs,.agg ys=>XdT xs.toList ys.toList
 | a,b=>JdC a b
theorem Xef {a b:Value} (h:Xei a b=true):a=b:=by
 unfold Xei at h
 split at h
 ·rename_i xs ys
  have:=Zd0 h
  cases xs;cases ys
  simp only at this
  rw [this]
 ·exact QcC h
def Jel:List Value→List Value→Bool
 | [],[]=>true
 | x::xs,y::ys=>Xei x y&&Jel xs ys
 | _,_=>false
theorem Zec: ∀{a b:List Value},Jel a b=true→a=b
 | [],[],_=>rfl
 | x::xs,y::ys,h=>by
  simp only [Jel,Bool.and_eq_true] at h
  rw [Xef h.1,Zec h.2]
 | [],_::_,h=>by cases h
 | _::_,[],h=>by cases h
def Xdj:Value→Value→Bool
 | .tuple xs,.tuple ys=>Jel xs.toList ys.toList
 | a,b=>Xei a b
theorem QeX {a b:Value} (h:Xdj a b=true):a=b:=by
 unfold Xdj at h
 split at h
 ·rename_i xs ys
  have:=Zec h
  cases xs;cases ys
  simp only at this
  rw [this]
 ·exact Xef h
def XEH (P:Program) (H:EH) (X:XT):XT:=fun C f args g n K=>X C f args g n K∨
 ∃(v:Value) (fuel depth:Nat),plain 3 v=true∧args.all (plain 3)=true∧ZaN P H fuel depth f args .nil 0 (fun v' _ _=>Xdj v' v)=true∧ ∀n',K v g n'
theorem JfF {H:EH} {X:XT} (hX:Xda X):Xda (XEH P H X):=by
 rintro C C' hC f args g n K K' hk (h|⟨v,fuel,depth,h1,h2,h3,h4⟩)
 ·exact .inl (hX _ _ hC _ _ _ _ _ _ hk h)
 ·exact .inr ⟨v,fuel,depth,h1,h2,h3,fun n'=>hk _ _ _ (h4 n')⟩
theorem XcK {μ μ':Mu}: ∀{xs ys:List Value},VRs μ xs ys→xs.all (plain 3)=true→VRs μ' xs ys
 | _,_,.nil,_=> .nil
 | _,_,.cons h hs,hp=>by
  simp only [List.all_cons,Bool.and_eq_true] at hp
  have:=ZbR h 3 hp.1
  subst this
  exact .cons (Zau μ' 3 _ hp.1) (XcK hs hp.2)
theorem Qfc (hD: ∀B,Xam P B) {H:EH} {X:XT} (hX:XcE P X) (hH:HOk H (ZaU P)):XcE P (XEH P H X):=by
 rintro f args g n K (h|⟨v,fuel,depth,h1,h2,h3,h4⟩) μ w B cargs hs hr
 ·exact hX _ _ _ _ _ h μ w B cargs hs hr
 have hx:ZaU P f args (Tr.nil).get 0 (fun v' _ _=>v'=v):=QbR (JbG hD) hH depth f args .nil 0 _ _ (fun v' h n e=>QeX e) h3
 have hc:=hx (fun _=>none) w w.heap.size cargs
  ⟨fun _ _ h=>by simp at h,fun _ _=>rfl,fun _ _ _ _ h=>by simp at h,fun _ _ _ _ _ _ _ _ _ _ h=>by simp at h,Nat.le_refl _⟩ (XcK hr h2)
 have fin: ∀v' w',Fin w.heap.size w (fun _=>none) (fun v' _ _=>v'=v) v' w'→Fin B w μ K v' w':=by
  rintro v' w' ⟨v1,g1,n1,μ1,rfl,hv,_,_,hb⟩
  have hv:=ZbR hv 3 h1
  subst hv
  refine ⟨_,g,n,μ,h4 n,Zau μ 3 _ h1,?_,Ext.refl _,?_⟩
  ·exact ⟨hs.dom,hs.gdom,fun l b m hg hm=>(hs.live l b m hg hm).mono (Ext.refl μ) (hb.block _ (hs.live l b m hg hm).lt),hs.inj,Nat.le_trans hs.base hb.size⟩
  ·exact hb.mono hs.base
 revert hc
 generalize (callFunc f cargs).run P w=r
 intro hc
 cases r with
 | ok x w'=>
  cases x<;>simp only [Upon] at hc ⊢ <;>first
   | exact fin _ _ hc
   | exact hc.elim
   | exact Calls.mono hc fun e w'' he=>by cases e<;>simp only [Xft] at he ⊢ <;>exact fin _ _ he
   | exact Rows.mono hc fun v w'' he=>fin _ _ he
   | skip
 | halt x w'=>exact hc.elim
theorem Qbk {f:FuncId} {fn:Func} {args:Array Value} {w:World} (hf:P.funcs[f]? =some fn) (hb:fn.body.isSome=true) (hn:(fn.name== "runtime.NumGoroutine")=false):(callFunc f args).run P w= .ok (.enter f args) w:=by
 obtain ⟨c,hb⟩:=Option.isSome_iff_exists.1 hb
 simp [callFunc,hf,hb]
 simp at hn
 simp [hn]
end Go.Proofs.YtmchcjaomcdbmaaGreat.Abs
namespace Go.Proofs.YtmchcjaomcdbmaaGreat.Abs
open Go Go.RowKit
variable {P:Program}
inductive XK where
 | ld (k:IntKind)
 | add (k:IntKind)
 | slow (Fs:List FuncId)
 | tab (t:List Value→Option Value)
 | look (r:List Value→G→Option (Value×Option (Nat×Nat×Value)))
abbrev XeL:=FuncId→Option XK
def Qce (k:IntKind) (args:List Value) (g:G) (n:Nat) (K:Cont):Prop:=
 match args with
 | [.pointer (some ⟨l,o,none⟩)]=>kLd g l o fun v=>match v with
  | .int k' x=>k'=k∧K (.int k' x) g n
  | _=>False
 | _=>False
def Jdc (k:IntKind) (args:List Value) (g:G) (n:Nat) (K:Cont):Prop:=
 match args with
 | [.pointer (some ⟨l,o,none⟩),.int k2 y]=>k2=k∧kLd g l o fun v=>match v with
  | .int k' x=>k'=k∧kSt g l o (.int k (k.wrap (x+y))) fun g=>K (.int k (k.wrap (x+y))) g n
  | _=>False
 | _=>False
def XdG (C:CT) (Fs:List FuncId) (args:List Value) (g:G) (n:Nat) (K:Cont):Prop:=
 match args with
 | [.pointer (some ⟨l,o,none⟩),.func (.func F) us vs]=>F∈Fs∧kLd g l o (fun v=>v= .int .u32 0)∧kLd g l (o+1) (fun v=>v= .int .i32 0)∧kSt g l (o+1) (.int .i32 1) fun g1=>
   C F (us.toList++vs.toList) g1 n fun _ g2 n2=>kLd g2 l (o+1) (fun v=>v= .int .i32 1)∧kSt g2 l o (.int .u32 1) fun g3=>kSt g3 l (o+1) (.int .i32 0) fun g4=>K (.tuple #[]) g4 n2
 | _=>False
def Zgc (t:List Value→Option Value) (args:List Value) (g:G) (n:Nat) (K:Cont):Prop:=
 match t args with
 | some v=>K v g n
 | none=>False
def Xcu (r:List Value→G→Option (Value×Option (Nat×Nat×Value))) (args:List Value) (g:G) (n:Nat) (K:Cont):Prop:=
 match r args g with
 | some (v,none)=>K v g n
 | some (v,some (l,o,x))=>kSt g l o x fun g=>K v g n
 | none=>False
def XF (T:XeL):XT:=fun C f args g n K=>
 match T f with
 | some (.ld k)=>Qce k args g n K
 | some (.add k)=>Jdc k args g n K
 | some (.slow Fs)=>XdG C Fs args g n K
 | some (.tab t)=>Zgc t args g n K
 | some (.look r)=>Xcu r args g n K
 | none=>False
def QfO (P:Program) (slow F:FuncId):Prop:= ∀(b off:Nat) (us vs:Array Value) (w:World) (R:Ending→World→Prop),
 w.cell? ⟨b,off,none⟩=some (.int .u32 0)→w.cell? ⟨b,off+1,none⟩=some (.int .i32 0)→w.frozen? ⟨b,off+1,none⟩=false→
 (Calls P F (us++ #[]++vs) (w.setCell ⟨b,off+1,none⟩ (.int .i32 1)) fun e w2=>(∃v,e= .returned v)∧(∃x,w2.cell? ⟨b,off,none⟩=some x)∧w2.frozen? ⟨b,off,none⟩=false∧
   w2.cell? ⟨b,off+1,none⟩=some (.int .i32 1)∧w2.frozen? ⟨b,off+1,none⟩=false∧R (.returned (.tuple #[])) ((w2.drew.setCell ⟨b,off,none⟩ (.int .u32 1)).setCell ⟨b,off+1,none⟩ (.int .i32 0)))→
 Calls P slow #[.pointer (some ⟨b,off,none⟩),.func (.func F) us vs] w R
structure Xds (P:Program) (f:FuncId):Prop where
 ex: ∃fn,P.funcs[f]? =some fn∧fn.body.isSome=true∧(fn.name== "runtime.NumGoroutine")=false
structure JdH (P:Program) (f:FuncId) (e:Array Value→Sem Value):Prop where
 ex: ∃fn,P.funcs[f]? =some fn∧(fn.name== "runtime.NumGoroutine")=false∧fn.body.isNone=true∧Extern.findNext fn=none∧Extern.find fn=some e
def QgP (P:Program) (f:FuncId):XK→Prop
 | .ld k=>JdH P f (Extern.Atomic.loadT (.int k))
 | .add k=>JdH P f (Extern.Atomic.update (Op.intArith .add) k true)
 | .slow Fs=>Xds P f∧ ∀F∈Fs,Xds P F∧QfO P f F
 | .tab t=> ∀args v g n K,t args=some v→K v g n→ZaU P f args g n K
 | .look r=> ∀args g n K,Xcu r args g n K→ZaU P f args g n K
def Zgp (P:Program) (T:XeL):Prop:= ∀f k,T f=some k→QgP P f k
theorem QdK {k:IntKind} {args:List Value} {g:G} {n:Nat} {K K':Cont} (hk: ∀v g n,K v g n→K' v g n) (h:Qce k args g n K):Qce k args g n K':=by
 unfold Qce at*
 split at h
 ·refine Zcm (fun v h=> ?_) h
  split at h
  ·exact ⟨h.1,hk _ _ _ h.2⟩
  ·exact h.elim
 ·exact h.elim
theorem ZeC {k:IntKind} {args:List Value} {g:G} {n:Nat} {K K':Cont} (hk: ∀v g n,K v g n→K' v g n) (h:Jdc k args g n K):Jdc k args g n K':=by
 unfold Jdc at*
 split at h
 ·refine ⟨h.1,Zcm (fun v h=> ?_) h.2⟩
  split at h
  ·exact ⟨h.1,Qbq (fun _=>hk _ _ _) h.2⟩
  ·exact h.elim
 ·exact h.elim
theorem Jep {C C':CT} (hC:CLe C C') {Fs:List FuncId} {args:List Value} {g:G} {n:Nat} {K K':Cont} (hk: ∀v g n,K v g n→K' v g n) (h:XdG C Fs args g n K):XdG C' Fs args g n K':=by
 unfold XdG at*
 split at h
 ·obtain ⟨h1,h2,h3,h4⟩:=h
  exact ⟨h1,h2,h3,Qbq (fun g h=>hC _ _ _ _ _ _ (fun _ g2 n2 h=>⟨h.1,Qbq (fun g3 h=>Qbq (fun g4 h=>hk _ _ _ h) h) h.2⟩) h) h4⟩
 ·exact h.elim
theorem Qfd {t:List Value→Option Value} {args:List Value} {g:G} {n:Nat} {K K':Cont} (hk: ∀v g n,K v g n→K' v g n) (h:Zgc t args g n K):Zgc t args g n K':=by
 unfold Zgc at*
 split at h
 ·exact hk _ _ _ h
 ·exact h.elim
theorem Zex {r:List Value→G→Option (Value×Option (Nat×Nat×Value))} {args:List Value} {g:G} {n:Nat} {K K':Cont} (hk: ∀v g n,K v g n→K' v g n) (h:Xcu r args g n K):Xcu r args g n K':=by
 unfold Xcu at*
 split at h
 ·exact hk _ _ _ h
 ·exact Qbq (fun g h=>hk _ _ _ h) h
 ·exact h.elim
theorem Zgb (T:XeL):Xda (XF T):=by
 intro C C' hC f args g n K K' hk h
 unfold XF at*
 split at h
 ·exact QdK hk h
 ·exact ZeC hk h
 ·exact Jep hC hk h
 ·exact Qfd hk h
 ·exact Zex hk h
 ·exact h.elim
section
variable {g:G} {n:Nat} {K:Cont} {f:FuncId} {args:List Value}
theorem JgN {μ:Mu} {x:Value} {c:Array Value} (h:VRs μ [x] c.toList): ∃x',c= #[x']∧VR μ x x':=by
 generalize hl:c.toList=l at h
 cases h with
 | cons h1 h2=>
  cases h2
  exact ⟨_,by apply Array.ext';rw [hl],h1⟩
theorem Jgy {μ:Mu} {x y:Value} {c:Array Value} (h:VRs μ [x,y] c.toList): ∃x' y',c= #[x',y']∧VR μ x x'∧VR μ y y':=by
 generalize hl:c.toList=l at h
 cases h with
 | cons h1 h2=>
  cases h2 with
  | cons h3 h4=>
   cases h4
   exact ⟨_,_,by apply Array.ext';rw [hl],h1,h3⟩
theorem QcE {l o:Nat} {J:Value→Prop} (h:kLd g l o J): ∃cs k v,g l=some (.cells cs k)∧cs[o]? =some v∧J v:=by
 obtain ⟨cs,k,h1,h2⟩:=JH h
 obtain ⟨v,h3,h4⟩:=QaZ h2
 exact ⟨cs,k,v,h1,h3,h4⟩
theorem XcA {l o:Nat} {v:Value} {J:G→Prop} (h:kSt g l o v J): ∃cs k,g l=some (.cells cs k)∧k.rw=true∧o<cs.length∧J (upd g l (some (.cells (cs.set o v) k))):=by
 obtain ⟨cs,k,h1,h2,h3,_,h4⟩:=JH h
 exact ⟨cs,k,h1,h2,h3,h4⟩
theorem Qfv {k:IntKind} (ht:JdH P f (Extern.Atomic.loadT (.int k))) (h:Qce k args g n K):ZaU P f args g n K:=by
 intro μ w B cargs hs hr
 obtain ⟨fn,h1,h2,h3,h4,h5⟩:=ht.ex
 unfold Qce at h
 split at h
 ·rename_i l o
  obtain ⟨x',rfl,hx⟩:=JgN hr
  cases hx with
  | @ptr _ m _ hm=>
   obtain ⟨cs,bk,v,hg,hv,hq⟩:=QcE h
   split at hq
   ·obtain ⟨rfl,hq⟩:=hq
    obtain ⟨v',hc,hvr⟩:=hs.load hg hm hv
    cases hvr
    rw [run_call_load h1 h2 h3 h4 _ h5 hc]
    exact Zi hs (.int _ _) hq
   ·exact hq.elim
 ·exact h.elim
theorem XfZ {k:IntKind} (ht:JdH P f (Extern.Atomic.update (Op.intArith .add) k true)) (h:Jdc k args g n K):ZaU P f args g n K:=by
 intro μ w B cargs hs hr
 obtain ⟨fn,h1,h2,h3,h4,h5⟩:=ht.ex
 unfold Jdc at h
 split at h
 ·rename_i l o k2 y
  obtain ⟨x',y',rfl,hx,hy⟩:=Jgy hr
  cases hy
  obtain ⟨rfl,h⟩:=h
  cases hx with
  | @ptr _ m _ hm=>
   obtain ⟨cs,bk,v,hg,hv,h⟩:=QcE h
   split at h
   ·rename_i k' x
    obtain ⟨rfl,h⟩:=h
    obtain ⟨v',hc,hvr⟩:=hs.load hg hm hv
    cases hvr
    obtain ⟨cs',bk',hg',hrw,hlt,h⟩:=XcA h
    rw [hg] at hg';cases hg'
    obtain ⟨_,hz,hs',hb⟩:=hs.store hg hm hlt hrw (.int _ (IntKind.wrap _ (x+y)))
    rw [run_call_add h1 h2 h3 h4 _ h5 hc hz (by simp [go_sem];rfl)]
    exact ⟨_,_,n,μ,h,.int _ _,hs',Ext.refl μ,hb⟩
   ·exact h.elim
 ·exact h.elim
theorem ZfB {Fs:List FuncId} (hb:Xds P f) (hF: ∀F∈Fs,Xds P F∧QfO P f F) (h:XdG (ZaU P) Fs args g n K):ZaU P f args g n K:=by
 intro μ w B cargs hs hr
 obtain ⟨fn,b1,b2,b3⟩:=hb.ex
 unfold XdG at h
 split at h
 ·rename_i l o F us vs
  obtain ⟨x',y',rfl,hx,hy⟩:=Jgy hr
  obtain ⟨hmem,h0,h1,h⟩:=h
  obtain ⟨hbF,hok⟩:=hF F hmem
  cases hy with
  | @func _ _ _ us' vs' e1 e2 r1 r2=>
  cases hx with
  | @ptr _ m _ hm=>
   obtain ⟨cs,bk,v,hg,hv,rfl⟩:=QcE h0
   obtain ⟨v0,hc0,hvr⟩:=hs.load hg hm hv
   cases hvr
   obtain ⟨cs',bk',v,hg',hv',rfl⟩:=QcE h1
   rw [hg] at hg';cases hg'
   obtain ⟨v1,hc1,hvr⟩:=hs.load hg hm hv'
   cases hvr
   obtain ⟨cs',bk',hg',hrw,hlt,h⟩:=XcA h
   rw [hg] at hg';cases hg'
   obtain ⟨_,hz,hs1,hb1⟩:=hs.store hg hm hlt hrw (.int .i32 1)
   rw [Qbk b1 b2 b3]
   show Calls P f _ w (Xft B w μ K)
   refine hok _ _ _ _ _ _ hc0 hc1 hz ?_
   obtain ⟨fF,f1,f2,f3⟩:=hbF.ex
   have hvrs:VRs μ (us.toList++vs.toList) (us'++ #[]++vs').toList:=by
    rw [Array.toList_append,Array.toList_append,List.append_nil]
    exact (VRs.of_get (by simpa using e1) fun i x y hx hy=>r1 i x y (by simpa using hx) (by simpa using hy)).append (VRs.of_get (by simpa using e2) fun i x y hx hy=>r2 i x y (by simpa using hx) (by simpa using hy))
   have hcb:=h μ _ B _ hs1 hvrs
   rw [Qbk f1 f2 f3] at hcb
   refine Calls.mono hcb fun e w2 he=> ?_
   cases e with
   | panicked c=>exact he.elim
   | outgrown=>exact he.elim
   | returned v=>
    obtain ⟨_,g2,n2,μ2,⟨hk1,hk⟩,_,hs2,hx2,hb2⟩:=he
    have hm2:=hx2 _ _ hm
    obtain ⟨cs2,bk2,_,hg2,hv2,rfl⟩:=QcE hk1
    obtain ⟨u1,hc2,hvr⟩:=hs2.load hg2 hm2 hv2
    cases hvr
    obtain ⟨cs',bk',hg',hrw2,hlt2,hk⟩:=XcA hk
    rw [hg2] at hg';cases hg'
    obtain ⟨hd,hz2,hs3,hb3⟩:=hs2.drew.store hg2 hm2 hlt2 hrw2 (.int .u32 1)
    obtain ⟨cs3,bk3,hg3,hrw3,hlt3,hk⟩:=XcA hk
    obtain ⟨_,hz3,hs4,hb4⟩:=hs3.store hg3 hm2 hlt3 hrw3 (.int .i32 0)
    have hz4:w2.frozen? ⟨m.b,m.s+(o+1),none⟩=false:=by
     have ho1:o+1<cs2.length:=(List.getElem?_eq_some_iff.1 hv2).1
     exact (hs2.store hg2 hm2 ho1 hrw2 (.int .i32 0)).2.1
    refine ⟨⟨_,rfl⟩,?_,?_,hc2,hz4,?_⟩
    ·obtain ⟨u,hu⟩:=hd;exact ⟨u,by simpa using hu⟩
    ·simpa using hz2
    ·exact ⟨_,_,n2,μ2,hk,.tuple rfl (by intro i x y hx;simp at hx),hs4,hx2,(hb1.trans hb2).trans (((Below.refl B w2).drew.trans hb3).trans hb4)⟩
 ·exact h.elim
end
theorem Xdc {T:XeL} (hT:Zgp P T):XcE P (XF T):=by
 intro f args g n K h
 unfold XF at h
 split at h
 ·rename_i k hk;exact Qfv (hT _ _ hk) h
 ·rename_i k hk;exact XfZ (hT _ _ hk) h
 ·rename_i k hk;exact ZfB (hT _ _ hk).1 (hT _ _ hk).2 h
 ·rename_i t hk
  unfold Zgc at h
  split at h
  ·rename_i v hv;exact hT _ _ hk _ _ _ _ _ hv h
  ·exact h.elim
 ·rename_i r hk;exact hT _ _ hk _ _ _ _ h
 ·exact h.elim
def XgB (args:List Value):Option Value:=match args with
 | [.string s,.int .u8 c]=>some (match (List.range s.size).find? (fun i=>s[i]! ==c.toNat.toUInt8) with|some i=> .int .i64 i|none=> .int .i64 (-1))
 | _=>none
theorem Jgc {f:FuncId} (ht:JdH P f Extern.BytealgIndexByte.indexByte): ∀args v g n K,XgB args=some v→K v g n→ZaU P f args g n K:=by
 intro args v g n K h hk μ w B cargs hs hr
 obtain ⟨fn,h1,h2,h3,h4,h5⟩:=ht.ex
 unfold XgB at h
 split at h
 ·rename_i s c
  obtain ⟨x',y',rfl,hx,hy⟩:=Jgy hr
  cases hx;cases hy
  cases h
  rw [run_callFunc_extern h1 h2 h3 h4 h5]
  have e:(Extern.BytealgIndexByte.indexByte #[.string s,.int .u8 c]).run P w= .ok (match (List.range s.size).find? (fun i=>s[i]! ==c.toNat.toUInt8) with|some i=> .int .i64 i|none=> .int .i64 (-1)) w:=by
   show Sem.run P (match (List.range s.size).find? (fun i=>s[i]! ==c.toNat.toUInt8) with|some i=>pure (goInt i)|none=>pure (goInt (-1))) w=_
   generalize (List.range s.size).find? (fun i=>s[i]! ==c.toNat.toUInt8)=o
   cases o<;>rfl
  rw [e]
  refine Zi hs ?_ hk
  split<;>exact .int _ _
 ·cases h
def XfM (k:IntKind) (_:ECT) (args:List Value) (h:Tr) (n:Nat) (K:EC):Bool:=
 match args with
 | [.pointer (some ⟨l,o,none⟩)]=>eLd h l o fun v=>match v with
  | .int k' x=>decide (k'=k)&&K (.int k' x) h n
  | _=>false
 | _=>false
def Zgn (k:IntKind) (_:ECT) (args:List Value) (h:Tr) (n:Nat) (K:EC):Bool:=
 match args with
 | [.pointer (some ⟨l,o,none⟩),.int k2 y]=>decide (k2=k)&&eLd h l o fun v=>match v with
  | .int k' x=>decide (k'=k)&&Zdm (k.wrap (x+y)) fun i=>eSt h l o (.int k i) fun h=>K (.int k i) h n
  | _=>false
 | _=>false
def Xgv (Fs:List FuncId) (D:ECT) (args:List Value) (h:Tr) (n:Nat) (K:EC):Bool:=
 match args with
 | [.pointer (some ⟨l,o,none⟩),.func (.func F) us vs]=>Fs.contains F&&(eLd h l o (fun v=>JdC v (.int .u32 0))&&(eLd h l (o+1) (fun v=>JdC v (.int .i32 0))&&eSt h l (o+1) (.int .i32 1) fun h1=>
   D F (us.toList++vs.toList) h1 n fun _ h2 n2=>eLd h2 l (o+1) (fun v=>JdC v (.int .i32 1))&&eSt h2 l o (.int .u32 1) fun h3=>eSt h3 l (o+1) (.int .i32 0) fun h4=>K (.tuple #[]) h4 n2))
 | _=>false
def JgJ (t:List Value→Option Value) (_:ECT) (args:List Value) (h:Tr) (n:Nat) (K:EC):Bool:=
 match t args with
 | some v=>K v h n
 | none=>false
def Xgq (r:List Value→G→Option (Value×Option (Nat×Nat×Value))) (_:ECT) (args:List Value) (h:Tr) (n:Nat) (K:EC):Bool:=
 match r args h.get with
 | some (v,none)=>K v h n
 | some (v,some (l,o,x))=>eSt h l o x fun h=>K v h n
 | none=>false
def HT (T:XeL):EH:=fun f=>match T f with
 | some (.ld k)=>some (XfM k)
 | some (.add k)=>some (Zgn k)
 | some (.slow Fs)=>some (Xgv Fs)
 | some (.tab t)=>some (JgJ t)
 | some (.look r)=>some (Xgq r)
 | none=>none
theorem Qgr {T:XeL} {C:CT} (hC: ∀f args g n K,XF T C f args g n K→C f args g n K):HOk (HT T) C:=by
 intro f e hf D hD args h n k K hk he
 refine hC _ _ _ _ _ ?_
 unfold HT at hf
 unfold XF
 cases ht:T f with
 | none=>rw [ht] at hf;cases hf
 | some x=>
  rw [ht] at hf
  cases x with
  | ld kd=>
   cases hf
   unfold XfM at he
   show Qce _ _ _ _ _
   unfold Qce
   split at he
   ·refine JdK (fun v e=> ?_) he
    split at e
    ·simp only [Bool.and_eq_true,decide_eq_true_eq] at e;exact ⟨e.1,hk _ _ _ e.2⟩
    ·cases e
   ·cases he
  | add kd=>
   cases hf
   unfold Zgn at he
   show Jdc _ _ _ _ _
   unfold Jdc
   split at he
   ·simp only [Bool.and_eq_true,decide_eq_true_eq] at he
    refine ⟨he.1,JdK (fun v e=> ?_) he.2⟩
    split at e
    ·simp only [Bool.and_eq_true,decide_eq_true_eq,Xb5] at e
     exact ⟨e.1,QeG (fun h e=>hk _ _ _ e) e.2⟩
    ·cases e
   ·cases he
  | slow Fs=>
   cases hf
   unfold Xgv at he
   show XdG _ _ _ _ _ _
   unfold XdG
   split at he
   ·simp only [Bool.and_eq_true] at he
    obtain ⟨h1,h2,h3,h4⟩:=he
    refine ⟨by simpa using h1,JdK (fun v e=>QcC e) h2,JdK (fun v e=>QcC e) h3,QeG (fun h5 e=>hD _ _ _ _ _ _ (fun v6 h6 n6 e=> ?_) e) h4⟩
    simp only [Bool.and_eq_true] at e
    exact ⟨JdK (fun v e=>QcC e) e.1,QeG (K:=fun g=>kSt g _ _ _ _) (fun h7 e=>QeG (fun h8 e=>hk _ _ _ e) e) e.2⟩
   ·cases he
  | tab t=>
   cases hf
   unfold JgJ at he
   show Zgc _ _ _ _ _
   unfold Zgc
   split at he
   ·exact hk _ _ _ he
   ·cases he
  | look r=>
   cases hf
   unfold Xgq at he
   show Xcu _ _ _ _ _
   unfold Xcu
   split at he
   ·exact hk _ _ _ he
   ·exact QeG (fun h e=>hk _ _ _ e) he
   ·cases he
def XP (P:Program) (T:XeL):XT:=XEH P (HT T) (XF T)
theorem Jf2 (T:XeL):Xda (XP P T):=JfF (Zgb T)
theorem XfF (hD: ∀B,Xam P B) {T:XeL} (hT:Zgp P T):XcE P (XP P T):=Qfc hD (Xdc hT) (Qgr (Xdc hT))
end Go.Proofs.YtmchcjaomcdbmaaGreat.Abs
namespace Go.Proofs.YtmchcjaomcdbmaaGreat.Abs
open Go Go.RowKit
variable {P:Program}
def isU64:Value→Bool| .int .u64 _=>true|_=>false
theorem Zen {v:Value} (h:isU64 v=true):isCell v=true:=by unfold isU64 at h;split at h<;>first|rfl|cases h
theorem JeO {v:Value} (h:isU64 v=true): ∃z,v= .int .u64 z:=by unfold isU64 at h;split at h<;>first|exact ⟨_,rfl⟩|cases h
def ZcN (es:List Value) (o:Nat):Option (Int×List Value):=
 if o+9≤es.length∧((es.drop (o+1)).take 8).all isU64=true then match es[o]? with
  | some (.int .i64 y)=>some (y,(es.drop (o+1)).take 8)
  | _=>none
 else none
def QeJ (es:List Value) (os:Nat) (x:Int):Nat→Option (Option (List Value))
 | 0=>some none
 | k+1=>match ZcN es (os+k*9) with
  | some (y,d)=>match QeJ es os x k with
   | some r=>if y=x then some (some d) else some r
   | none=>none
  | none=>none
def JeJ (g:G) (a:Option Addr) (len:Nat) (x:Int):Option (Option (List Value)):=
 if len=0 then some none else if len<1099511627776 then match a with
  | some ⟨ls,os,none⟩=>match g ls with
   | some (.cells es _)=>QeJ es os x len
   | _=>none
  | _=>none
 else none
def Xf1 (ld od:Nat) (x:Int) (g:G):Option (Value×Option (Nat×Nat×Value)):=
 match g ld with
 | some (.cells ds _)=>match ds[od]?,ds[od+2]? with
  | some (.slice (some ⟨ll,ol,none⟩) m _),some (.int .i64 r)=>
   if 0≤x∧x<m∧ll≠ld∧m<1099511627776 then match g ll with
    | some (.cells ws _)=>if ol+x.toNat*8+8≤ws.length∧((ws.drop (ol+x.toNat*8)).take 8).all isU64=true then
      some (.tuple #[.agg ((ws.drop (ol+x.toNat*8)).take 8).toArray,.int .i64 0],some (ld,od+2,.int .i64 (IntKind.wrap .i64 (r+1))))
     else none
    | _=>none
   else none
  | _,_=>none
 | _=>none
def Xev (args:List Value) (g:G):Option (Value×Option (Nat×Nat×Value)):=
 match args with
 | [.pointer (some ⟨l,o,none⟩),.int .i64 x]=>match g l with
  | some (.cells cs _)=>match cs[o]?,cs[o+2]? with
   | some (.pointer (some ⟨ld,od,none⟩)),some (.slice a len _)=>match JeJ g a len x with
    | some (some d)=>some (.tuple #[.agg d.toArray,.int .i64 0],none)
    | some none=>Xf1 ld od x g
    | none=>none
   | _,_=>none
  | _=>none
 | _=>none
def Jd7 (E:Nat→Value):Value:= .agg #[E 0,E 1,E 2,E 3,E 4,E 5,E 6,E 7]
def JfO (P:Program) (f:FuncId):Prop:= ∀(b off db dof sb so len cap:Nat) (a:Option Addr) (x:Int) (L:Nat→Int) (E:Nat→Nat→Value) (w:World) (R:Ending→World→Prop),
 w.cell? ⟨b,off,none⟩=some (.pointer (some ⟨db,dof,none⟩))→w.cell? ⟨b,off+2,none⟩=some (.slice a len cap)→(0<len→a=some ⟨sb,so,none⟩)→len<1099511627776→
 (∀j,j<len→w.cell? ⟨sb,so+j*9,none⟩=some (.int .i64 (L j)))→(∀j i,j<len→i<8→w.cell? ⟨sb,so+j*9+1+i,none⟩=some (E j i))→(∀j i,isU64 (E j i)=true)→
 (∀k,k<len→L k=x→(∀j,k<j→j<len→L j≠x)→ ∀w1,Below w.heap.size w w1→R (.returned (.tuple #[Jd7 (E k),.int .i64 0])) w1)→
 ((∀j,j<len→L j≠x)→ ∃(lb lo m c:Nat) (r:Int) (W:Nat→Value),lb≠db∧w.cell? ⟨db,dof,none⟩=some (.slice (some ⟨lb,lo,none⟩) m c)∧0≤x∧x<m∧m<1099511627776∧
  (∀i,i<8→w.cell? ⟨lb,lo+x.toNat*8+i,none⟩=some (W i))∧(∀i,isU64 (W i)=true)∧w.cell? ⟨db,dof+2,none⟩=some (.int .i64 r)∧w.frozen? ⟨db,dof+2,none⟩=false∧
  ∀w1 w2,Below w.heap.size w w1→Below w.heap.size (w1.setCell ⟨db,dof+2,none⟩ (.int .i64 (IntKind.wrap .i64 (r+1)))) w2→R (.returned (.tuple #[Jd7 W,.int .i64 0])) w2)→
 Calls P f #[.pointer (some ⟨b,off,none⟩),.int .i64 x] w R
section
variable {es:List Value} {os:Nat} {x:Int}
theorem JcA {o:Nat} {y:Int} {d:List Value} (h:ZcN es o=some (y,d)):o+9≤es.length∧es[o]? =some (.int .i64 y)∧d=(es.drop (o+1)).take 8∧d.all isU64=true:=by
 unfold ZcN at h
 split at h
 ·rename_i hl
  split at h
  ·rename_i z hz
   cases h
   exact ⟨hl.1,hz,rfl,hl.2⟩
  ·cases h
 ·cases h
theorem ZdE: ∀(k:Nat) (r:Option (List Value)),QeJ es os x k=some r→(∀j,j<k→ ∃y d,ZcN es (os+j*9)=some (y,d))∧
  (match r with
   | none=> ∀j y d,j<k→ZcN es (os+j*9)=some (y,d)→y≠x
   | some d=> ∃i,i<k∧ZcN es (os+i*9)=some (x,d)∧ ∀j y d,i<j→j<k→ZcN es (os+j*9)=some (y,d)→y≠x)
 | 0,r,h=>by
  cases h
  exact ⟨fun j hj=>absurd hj (by omega),fun j _ _ hj=>absurd hj (by omega)⟩
 | k+1,r,h=>by
  simp only [QeJ] at h
  split at h
  ·rename_i y d he
   split at h
   ·rename_i r' hr'
    obtain ⟨h1,h2⟩:=ZdE k r' hr'
    refine ⟨fun j hj=> ?_,?_⟩
    ·by_cases hjk:j=k
     ·subst hjk;exact ⟨_,_,he⟩
     ·exact h1 j (by omega)
    ·split at h
     ·rename_i hyx
      subst hyx
      cases h
      exact ⟨k,by omega,he,fun j y d hj hjk=>absurd hjk (by omega)⟩
     ·rename_i hyx
      cases h
      cases r with
      | none=>
       intro j y' d' hj hjd
       by_cases hjk:j=k
       ·subst hjk;rw [he] at hjd;cases hjd;exact hyx
       ·exact h2 j y' d' (by omega) hjd
      | some d0=>
       obtain ⟨i,hi,hid,hl⟩:=h2
       refine ⟨i,by omega,hid,fun j y' d' hj hjk' hjd=> ?_⟩
       by_cases hjk:j=k
       ·subst hjk;rw [he] at hjd;cases hjd;exact hyx
       ·exact hl j y' d' hj (by omega) hjd
   ·cases h
  ·cases h
end
section
variable {g:G} {n:Nat} {K:Cont} {f:FuncId} {args:List Value} {μ:Mu} {w:World} {B:Nat}
def orZ (o:Option Value):Value:=match o with|some v=>if isU64 v=true then v else .int .u64 0|none=> .int .u64 0
theorem Qd6 (o:Option Value):isU64 (orZ o)=true:=by
 unfold orZ;split
 ·split
  ·assumption
  ·rfl
 ·rfl
theorem VR.isU64 {v v':Value} (h:VR μ v v'):Go.Proofs.YtmchcjaomcdbmaaGreat.Abs.isU64 v'=Go.Proofs.YtmchcjaomcdbmaaGreat.Abs.isU64 v:=by cases h<;>rfl
theorem Xck {v:Value} (h:isU64 v=true):orZ (some v)=v:=by simp [orZ,h]
theorem Sim.below {w':World} (h:Sim μ g n w B) (hb:Below w.heap.size w w'):Sim μ g n w' B:=
 ⟨h.dom,h.gdom,fun l b m e f=>(h.live l b m e f).mono (Ext.refl μ) (hb.block _ (h.live l b m e f).lt),h.inj,Nat.le_trans h.base hb.size⟩
theorem Je3 {ds:List Value} {E:Nat→Value} (hl:ds.length=8) (h: ∀(i:Nat) (v:Value),ds[i]? =some v→i<8→VR μ v (E i)):VR μ (.agg ds.toArray) (Jd7 E):=by
 refine .agg (by simp [hl]) fun i x y hx hy=> ?_
 have hi:i<8:=by
  have:=(Array.getElem?_eq_some_iff.1 hy).1;simpa using this
 have hv:=h i x (by simpa using hx) hi
 match i,hi with
 | 0,_=>cases hy;exact hv
 | 1,_=>cases hy;exact hv
 | 2,_=>cases hy;exact hv
 | 3,_=>cases hy;exact hv
 | 4,_=>cases hy;exact hv
 | 5,_=>cases hy;exact hv
 | 6,_=>cases hy;exact hv
 | 7,_=>cases hy;exact hv
theorem Xe5 {v v':Value} (h:VR μ v v'):VR μ (.tuple #[v,.int .i64 0]) (.tuple #[v',.int .i64 0]):=by
 refine .tuple rfl fun i x y hx hy=> ?_
 match i with
 | 0=>cases hx;cases hy;exact h
 | 1=>cases hx;cases hy;exact .int _ _
 | i+2=>simp at hx
theorem QfH (hb:Xds P f) (hok:JfO P f) (h:Xcu Xev args g n K):ZaU P f args g n K:=by
 intro μ w B cargs hs hr
 obtain ⟨fn,b1,b2,b3⟩:=hb.ex
 have hrr: ∃q,Xev args g=some q∧(match q with|(v,none)=>K v g n|(v,some (l,o,x))=>kSt g l o x fun g=>K v g n):=by
  unfold Xcu at h
  split at h
  ·rename_i v hv;exact ⟨_,hv,h⟩
  ·rename_i v l o x hv;exact ⟨_,hv,h⟩
  ·exact h.elim
 clear h
 obtain ⟨q,hq,hK⟩:=hrr
 unfold Xev at hq
 split at hq
 ·rename_i l o x
  split at hq
  ·rename_i cs bk hg
   split at hq
   ·rename_i ld od a len c hd hsl
    obtain ⟨x',y',rfl,hx,hy⟩:=Jgy hr
    cases hy
    cases hx with
    | @ptr _ m _ hm=>
    rw [Qbk b1 b2 b3]
    show Calls P f _ w (Xft B w μ K)
    obtain ⟨dv,hdc,hdr⟩:=hs.load hg hm hd
    obtain ⟨sv,hsc,hsr⟩:=hs.load hg hm hsl
    cases hdr with
    | @ptr _ md _ hmd=>
    have hslice: ∃(a':Option Addr) (c':Nat),sv= .slice a' len c'∧(0<len→ ∀ls os,a=some ⟨ls,os,none⟩→ ∃m,μ ls=some m∧a'=some ⟨m.b,m.s+os,none⟩):=by
     cases hsr with
     | nilslice=>exact ⟨_,_,rfl,fun h=>absurd h (by omega)⟩
     | @slx l m o n c a' hc hn hm ha=>
      refine ⟨_,_,rfl,fun hlen ls os e=> ?_⟩
      cases e
      rcases ha with ha|ha
      ·exact ⟨m,hm,by rw [ha]⟩
      ·omega
     | @sll l m o j n c o' hm h1 h2 h3 h4=>
      refine ⟨_,_,rfl,fun hlen ls os e=> ?_⟩
      cases e
      rcases h4 with h4|h4
      ·exact ⟨m,hm,by rw [h4]⟩
      ·omega
    obtain ⟨a',c',rfl,hsl'⟩:=hslice
    clear hsr
    have hfind: ∃r,JeJ g a len x=some r∧(match r with|some d=>q=(.tuple #[.agg d.toArray,.int .i64 0],none)|none=>Xf1 ld od x g=some q):=by
     split at hq
     ·rename_i d hf;cases hq;exact ⟨_,hf,rfl⟩
     ·rename_i hf;exact ⟨_,hf,hq⟩
     ·cases hq
    clear hq
    obtain ⟨r,hf,hr2⟩:=hfind
    have hent:len<1099511627776∧ ∃(sb so:Nat) (L:Nat→Int) (E:Nat→Nat→Value),(0<len→a'=some ⟨sb,so,none⟩)∧(∀j,j<len→w.cell? ⟨sb,so+j*9,none⟩=some (.int .i64 (L j)))∧
      (∀j i,j<len→i<8→w.cell? ⟨sb,so+j*9+1+i,none⟩=some (E j i))∧(∀j i,isU64 (E j i)=true)∧
      (match r with
       | none=>True
       | some d=> ∀k,k<len→L k=x→(∀j,k<j→j<len→L j≠x)→VR μ (.agg d.toArray) (Jd7 (E k)))∧
      ((∀j,j<len→L j≠x)→r=none)∧((∃k,k<len∧L k=x)→r≠none):=by
     unfold JeJ at hf
     split at hf
     ·rename_i h0
      cases hf
      subst h0
      exact ⟨by omega,0,0,fun _=>0,fun _ _=> .int .u64 0,fun h=>absurd h (by omega),fun j hj=>absurd hj (by omega),fun j _ hj=>absurd hj (by omega),fun _ _=>rfl,trivial,fun _=>rfl,fun ⟨k,hk,_⟩=>absurd hk (by omega)⟩
     ·rename_i h0
      split at hf
      ·rename_i hlt
       split at hf
       ·rename_i ls os _
        split at hf
        ·rename_i es ek hge
         obtain ⟨ms,hms,ha'⟩:=hsl' (by omega) _ _ rfl
         obtain ⟨hall,hres⟩:=ZdE _ _ hf
         refine ⟨hlt,ms.b,ms.s+os,fun j=>match ZcN es (os+j*9) with|some (y,_)=>y|none=>0,fun j i=>orZ (w.cell? ⟨ms.b,ms.s+os+j*9+1+i,none⟩),fun _=>ha',?_,?_,fun _ _=>Qd6 _,?_,?_,?_⟩
         ·intro j hj
          obtain ⟨y,d,he⟩:=hall j hj
          simp only [he]
          obtain ⟨_,h2,_,_⟩:=JcA he
          obtain ⟨v',hv,hvr⟩:=hs.load hge hms h2
          cases hvr
          rw [←hv,Nat.add_assoc]
         ·intro j i hj hi
          obtain ⟨y,d,he⟩:=hall j hj
          obtain ⟨h1,_,hd',hdc⟩:=JcA he
          have hcl:isU64 (es[os+j*9+1+i]'(by omega))=true:=by
           subst hd'
           refine List.all_eq_true.1 hdc _ (List.mem_of_getElem? (i:=i) ?_)
           rw [List.getElem?_take,if_pos hi,List.getElem?_drop,List.getElem?_eq_getElem (by omega)]
          obtain ⟨v',hv,hvr⟩:=hs.load (o:=os+j*9+1+i) hge hms (List.getElem?_eq_getElem (by omega))
          have e:ms.s+(os+j*9+1+i)=ms.s+os+j*9+1+i:=by omega
          rw [e] at hv
          show _=some (orZ (w.cell? ⟨ms.b,ms.s+os+j*9+1+i,none⟩))
          rw [hv,Xck (hvr.isU64.trans hcl)]
         ·cases r with
          | none=>trivial
          | some d=>
           intro k hk hLk hlast
           obtain ⟨i0,hi0,he0,hl0⟩:=hres
           have hki:k=i0:=by
            obtain ⟨y,d',he⟩:=hall k hk
            simp only [he] at hLk
            subst hLk
            rcases Nat.lt_trichotomy k i0 with hlt'|heq|hgt
            ·have:=hlast i0 hlt' hi0
             simp only [he0] at this
             exact absurd rfl this
            ·exact heq
            ·exact absurd rfl (hl0 k _ _ hgt hk he)
           subst hki
           obtain ⟨h1,h2,rfl,hdc⟩:=JcA he0
           refine Je3 (by simp;omega) fun i v hv hi=> ?_
           have hcl:=List.all_eq_true.1 hdc _ (List.mem_of_getElem? hv)
           rw [List.getElem?_take,if_pos hi,List.getElem?_drop] at hv
           obtain ⟨v',hv',hvr⟩:=hs.load hge hms hv
           have e:ms.s+(os+k*9+1+i)=ms.s+os+k*9+1+i:=by omega
           rw [e] at hv'
           show VR μ v (orZ (w.cell? ⟨ms.b,ms.s+os+k*9+1+i,none⟩))
           rw [hv',Xck (hvr.isU64.trans hcl)];exact hvr
         ·intro hno
          cases r with
          | none=>rfl
          | some d=>
           obtain ⟨i0,hi0,he0,_⟩:=hres
           have:=hno i0 hi0
           simp only [he0] at this
           exact absurd rfl this
         ·rintro ⟨k,hk,hLk⟩ rfl
          obtain ⟨y,d',he⟩:=hall k hk
          simp only [he] at hLk
          exact hres k y d' hk he hLk
        ·cases hf
       ·cases hf
      ·cases hf
    obtain ⟨hlen,sb,so,L,E,ha',hL,hE,hEc,hfound,hnone,hsome⟩:=hent
    refine hok m.b (m.s+o) md.b (md.s+od) sb so len c' a' x L E w _ hdc (by rw [←hsc,Nat.add_assoc]) ha' hlen hL hE hEc ?_ ?_
    ·intro k hk hLk hlast w1 hw1
     cases r with
     | none=>exact absurd rfl (hsome ⟨k,hk,hLk⟩)
     | some d=>
      subst hr2
      exact ⟨_,g,n,μ,hK,Xe5 (hfound k hk hLk hlast),hs.below hw1,Ext.refl μ,hw1.mono hs.base⟩
    ·intro hno
     have hrn:=hnone hno
     subst hrn
     replace hr2:Xf1 ld od x g=some q:=hr2
     unfold Xf1 at hr2
     split at hr2
     ·rename_i ds dk hgd
      split at hr2
      ·rename_i ll ol mm cc rr hd0 hd2
       split at hr2
       ·rename_i hcond
        obtain ⟨hx0,hxm,hne,hmm⟩:=hcond
        split at hr2
        ·rename_i ws wk hgw
         split at hr2
         ·rename_i hwl
          cases hr2
          obtain ⟨lv,hlc,hlr⟩:=hs.load hgd hmd hd0
          obtain ⟨rv,hrc,hrr⟩:=hs.load hgd hmd hd2
          cases hrr
          obtain ⟨cs',bk',hg',hrw,hlt,hK⟩:=XcA hK
          rw [hgd] at hg';cases hg'
          have hlx: ∃(m':Pl) (c2:Nat),μ ll=some m'∧lv= .slice (some ⟨m'.b,m'.s+ol,none⟩) mm c2:=by
           cases hlr with
           | @slx _ m' _ _ _ _ hc hn hm' ha=>
            rcases ha with ha|ha
            ·exact ⟨m',_,hm',by rw [ha]⟩
            ·omega
           | @sll _ m' _ j _ c2 o2 hm' h1 h2 h3 h4=>
            rcases h4 with h4|h4
            ·exact ⟨m',_,hm',by rw [h4]⟩
            ·omega
          obtain ⟨m',c2,hm',rfl⟩:=hlx
          have hst:=hs.store hgd hmd hlt hrw (.int .i64 (IntKind.wrap .i64 (rr+1)))
          refine ⟨m'.b,m'.s+ol,mm,c2,rr,fun i=>orZ (w.cell? ⟨m'.b,m'.s+ol+x.toNat*8+i,none⟩),hs.apart hgd hmd (by cases dk<;>simp_all [Blk.rw,BK.rw]) hgw hm' hne,hlc,hx0,hxm,hmm,?_,fun _=>Qd6 _,?_,?_,?_⟩
          ·intro i hi
           have hcl:isU64 (ws[ol+x.toNat*8+i]'(by omega))=true:=by
            refine List.all_eq_true.1 hwl.2 _ (List.mem_of_getElem? (i:=i) ?_)
            rw [List.getElem?_take,if_pos hi,List.getElem?_drop,List.getElem?_eq_getElem (by omega)]
           obtain ⟨v',hv,hvr⟩:=hs.load (o:=ol+x.toNat*8+i) hgw hm' (List.getElem?_eq_getElem (by omega))
           have e:m'.s+(ol+x.toNat*8+i)=m'.s+ol+x.toNat*8+i:=by omega
           rw [e] at hv
           show _=some (orZ (w.cell? ⟨m'.b,m'.s+ol+x.toNat*8+i,none⟩))
           rw [hv,Xck (hvr.isU64.trans hcl)]
          ·rw [←hrc,Nat.add_assoc]
          ·rw [Nat.add_assoc];exact hst.2.1
          ·intro w1 w2 h1 h2
           have hs1:=hs.below h1
           obtain ⟨_,_,hs2,hb2⟩:=hs1.store hgd hmd hlt hrw (.int .i64 (IntKind.wrap .i64 (rr+1)))
           rw [←Nat.add_assoc] at hs2 hb2
           have hsz:w.heap.size≤(w1.setCell ⟨md.b,md.s+od+2,none⟩ (.int .i64 (IntKind.wrap .i64 (rr+1)))).heap.size:=by
            simpa [World.setCell] using h1.size
           have hs3:Sim μ (upd g ld (some (.cells (ds.set (od+2) (.int .i64 (IntKind.wrap .i64 (rr+1)))) dk))) n w2 B:=by
            refine ⟨hs2.dom,hs2.gdom,fun l b m e f=> ?_,hs2.inj,Nat.le_trans hs2.base h2.size⟩
            refine (hs2.live l b m e f).mono (Ext.refl μ) (h2.block _ ?_)
            by_cases hl:l=ld
            ·subst hl
             rw [hmd] at f;cases f
             exact (hs.live _ _ _ hgd hmd).lt
            ·rw [Xc _ _ hl] at e
             exact (hs.live _ _ _ e f).lt
           refine ⟨_,_,n,μ,hK,Xe5 (Je3 (by simp;omega) fun i v hv hi=> ?_),hs3,Ext.refl μ,((h1.mono hs.base).trans hb2).trans (h2.mono hs.base)⟩
           have hcl:=List.all_eq_true.1 hwl.2 _ (List.mem_of_getElem? hv)
           rw [List.getElem?_take,if_pos hi,List.getElem?_drop] at hv
           obtain ⟨v',hv',hvr⟩:=hs.load hgw hm' hv
           have e:m'.s+(ol+x.toNat*8+i)=m'.s+ol+x.toNat*8+i:=by omega
           rw [e] at hv'
           show VR μ v (orZ (w.cell? ⟨m'.b,m'.s+ol+x.toNat*8+i,none⟩))
           rw [hv',Xck (hvr.isU64.trans hcl)];exact hvr
         ·cases hr2
        ·cases hr2
       ·cases hr2
      ·cases hr2
     ·cases hr2
   ·cases hq
  ·cases hq
 ·cases hq
end
end Go.Proofs.YtmchcjaomcdbmaaGreat.Abs
namespace Go.Proofs.YtmchcjaomcdbmaaGreat.Abs
open Go Go.RowKit
variable {P:Program}
theorem ZdF (hD: ∀B,Xam P B) {H:EH} (hH:HOk H (ZaU P)) {f:FuncId} {args:List Value} {v:Value} (fuel depth:Nat) (h1:plain 3 v=true) (h2:args.all (plain 3)=true)
  (h3:ZaN P H fuel depth f args .nil 0 (fun v' _ _=>Xdj v' v)=true) {g:G} {n:Nat} {K:Cont} (hK:K v g n):ZaU P f args g n K:=by
 intro μ w B cargs hs hr
 have hx:ZaU P f args (Tr.nil).get 0 (fun v' _ _=>v'=v):=QbR (JbG hD) hH depth f args .nil 0 _ _ (fun v' h n e=>QeX e) h3
 have hc:=hx (fun _=>none) w w.heap.size cargs
  ⟨fun _ _ h=>by simp at h,fun _ _=>rfl,fun _ _ _ _ h=>by simp at h,fun _ _ _ _ _ _ _ _ _ _ h=>by simp at h,Nat.le_refl _⟩ (XcK hr h2)
 have fin: ∀v' w',Fin w.heap.size w (fun _=>none) (fun v' _ _=>v'=v) v' w'→Fin B w μ K v' w':=by
  rintro v' w' ⟨v1,g1,n1,μ1,rfl,hv,_,_,hb⟩
  have hv:=ZbR hv 3 h1
  subst hv
  refine ⟨_,g,n,μ,hK,Zau μ 3 _ h1,?_,Ext.refl _,?_⟩
  ·exact ⟨hs.dom,hs.gdom,fun l b m hg hm=>(hs.live l b m hg hm).mono (Ext.refl μ) (hb.block _ (hs.live l b m hg hm).lt),hs.inj,Nat.le_trans hs.base hb.size⟩
  ·exact hb.mono hs.base
 revert hc
 generalize (callFunc f cargs).run P w=r
 intro hc
 cases r with
 | ok x w'=>
  cases x<;>simp only [Upon] at hc ⊢ <;>first
   | exact fin _ _ hc
   | exact hc.elim
   | exact Calls.mono hc fun e w'' he=>by cases e<;>simp only [Xft] at he ⊢ <;>exact fin _ _ he
   | exact Rows.mono hc fun v w'' he=>fin _ _ he
   | skip
 | halt x w'=>exact hc.elim
theorem QfF (hD: ∀B,Xam P B) {T:XeL} (hT:Zgp P T) {f:FuncId} {args:List Value} {v:Value} (fuel depth:Nat) (h1:plain 3 v=true) (h2:args.all (plain 3)=true)
  (h3:ZaN P (HT T) fuel depth f args .nil 0 (fun v' _ _=>Xdj v' v)=true) {g:G} {n:Nat} {K:Cont} (hK:K v g n):ZaU P f args g n K:=
 ZdF hD (Qgr (Xdc hT)) fuel depth h1 h2 h3 hK
def XgD (v:Value) (args:List Value):Option Value:=match args with|[]=>some v|_=>none
theorem ZfD {v v':Value} {args:List Value} (h:XgD v args=some v'):args=[]∧v'=v:=by
 unfold XgD at h;split at h
 ·cases h;exact ⟨rfl,rfl⟩
 ·cases h
end Go.Proofs.YtmchcjaomcdbmaaGreat.Abs
namespace Go.Proofs.YtmchcjaomcdbmaaGreat.Abs
open Go Go.RowKit
variable {P:Program}
def XgC:Value→Value→Bool
 | .func (.func F) us vs,.func (.func F') us' vs'=>Nat.beq F F'&&(XdT us.toList us'.toList&&XdT vs.toList vs'.toList)
 | .nilFunc,.nilFunc=>true
 | a,b=>JdC a b
def ZfS:List Value→List Value→Bool
 | [],[]=>true
 | x::xs,y::ys=>XgC x y&&ZfS xs ys
 | _,_=>false
def XfP:Option Blk→Option Blk→Bool
 | none,none=>true
 | some (.cells cs k),some (.cells cs' k')=>Jf0 k k'&&ZfS cs cs'
 | _,_=>false
def JeM:Tr→Tr→Bool
 | .nil,.nil=>true
 | .node l b r,.node l' b' r'=>XfP b b'&&(JeM l l'&&JeM r r')
 | _,_=>false
def XfR:List Value→List Value→Bool
 | [],[]=>true
 | x::xs,y::ys=>Xdj x y&&XfR xs ys
 | _,_=>false
def Qf4:Tr→Tr→Bool
 | .nil,_=>true
 | .node l b r,.node l' b' r'=>(match b with|none=>true|some c=>XfP (some c) b')&&(Qf4 l l'&&Qf4 r r')
 | .node ..,.nil=>false
structure Row where
 f:FuncId
 args:List Value
 h:Tr
 n:Nat
 v:Value
 h':Tr
 n':Nat
def Row.ok (P:Program) (H:EH) (fuel depth:Nat) (r:Row):Bool:=
 ZaN P H fuel depth r.f r.args r.h r.n fun v h n=>Xdj v r.v&&(Qf4 r.h' h&&Nat.ble n r.n')
def Row.is (r:Row) (f:FuncId) (args:List Value) (h:Tr) (n:Nat):Bool:=Nat.beq f r.f&&(Nat.beq n r.n&&(XfR args r.args&&JeM h r.h))
end Go.Proofs.YtmchcjaomcdbmaaGreat.Abs
namespace Go.Proofs.YtmchcjaomcdbmaaGreat.Abs
open Go Go.RowKit
variable {P:Program}
end Go.Proofs.YtmchcjaomcdbmaaGreat.Abs
namespace Go.Proofs.YtmchcjaomcdbmaaGreat.Abs
open Go Go.RowKit
variable {P:Program}
inductive FK where
 | b
 | i (k:IntKind)
section
variable {H:Type} {enc:TypeId×Value→H} {w:World} {base:Nat} {spare:Nat→Bool} {held:Bool}
end
abbrev Ent:=Pl×Option (List Value)
def JeL (es:List Ent):Mu:=fun l=>(es[l]?).map (·.1)
def gOf (es:List Ent):G:=fun l=>match es[l]? with
 | some (_,some cs)=>some (.cells cs .ro)
 | _=>none
theorem Jbt {w:World} {base:Nat} {a:Addr} {n:Nat} {c:List Value} (h:w.cells? base a n=some c):c.length=n∧ ∀j,j<n→w.cell? (a.add j)=c[j]? :=by
 unfold World.cells? at h
 split at h
 ·exact ⟨by simpa using mapM_some_length h,fun j hj=>by simpa using mapM_some_get h j j (by simp [hj])⟩
 ·cases h
theorem XdV {els:List (List Value)} {z:Nat} (hz: ∀c∈els,c.length=z) (h0:0<z) (i:Nat) (v:Value) (h:els.flatten[i]? =some v): ∃c,els[i/z]? =some c∧c[i%z]? =some v:=by
 induction els generalizing i with
 | nil=>simp at h
 | cons c els ih=>
  have hc:c.length=z:=hz c (by simp)
  rw [List.flatten_cons,List.getElem?_append] at h
  split at h
  ·rename_i hi
   rw [Nat.div_eq_of_lt (by omega),Nat.mod_eq_of_lt (by omega)]
   exact ⟨c,rfl,h⟩
  ·rename_i hi
   obtain ⟨c',h1,h2⟩:=ih (fun c hc=>hz c (by simp [hc])) _ h
   have e1:i/z=(i-z)/z+1:=by rw [Nat.div_eq i z,if_pos ⟨h0,by omega⟩]
   have e2:i%z=(i-z)%z:=by rw [Nat.mod_eq i z,if_pos ⟨h0,by omega⟩]
   rw [e1,e2,←hc]
   rw [hc]
   refine ⟨c',by simpa [hc] using h1,by simpa [hc] using h2⟩
theorem XcG {w:World} {a:Addr} {v:Value} (h:w.cell? a=some v):a.spot=none∧ ∃cells elem fz,w.heap[a.block]? =some (.cells cells elem fz)∧cells[a.off]? =some v:=by
 unfold World.cell? at h
 split at h
 ·rename_i c el fz hh
  split at h
  ·cases h
  ·rename_i hs
   refine ⟨by simpa using hs,c,el,fz,hh,h⟩
 ·cases h
theorem ZcR (a:Addr) (n:Nat):(a.add n).block=a.block:=by unfold Addr.add;split<;>rfl
theorem Jd3 (a:Addr) (n:Nat):(a.add n).off=a.off+n:=by unfold Addr.add;split<;>simp_all
end Go.Proofs.YtmchcjaomcdbmaaGreat.Abs
namespace Go.Proofs.YtmchcjaomcdbmaaGreat.Abs
open Go Go.RowKit Go.ChangeShapes Go.WideShapes Go.ChangeAt
variable {P:Program}
section
variable {H:Type} {enc:TypeId×Value→H} {w:World} {base:Nat} {held:Bool}
end
end Go.Proofs.YtmchcjaomcdbmaaGreat.Abs
namespace Go.Proofs.YtmchcjaomcdbmaaGreat.Abs
open Go Go.RowKit Go.ChangeShapes Go.WideShapes Go.ChangeAt
variable {P:Program}
section
variable {H:Type} {enc:TypeId×Value→H} {w:World} {base:Nat} {held:Bool} {spare:Nat→Bool}
theorem JcY {r:Reach} {b0:Nat} {t:TypeId} {v:Value} (ht:(∃fs,P.underlying t=some (.struct fs))∨ ∃n e,P.underlying t=some (.array n e)) (h:Value.okWide P w r b0 t v): ∃xs:Array Value,v= .agg xs:=by
 rcases ht with ⟨fs,ht⟩|⟨n,e,ht⟩
 ·simp only [Value.okWide,ht] at h
  cases v<;>simp_all [Cell.okWide,Cell.ok]
 ·simp only [Value.okWide,ht] at h
  cases v<;>simp_all [Cell.okWide,Cell.ok]
end
end Go.Proofs.YtmchcjaomcdbmaaGreat.Abs
namespace Go.Proofs.YtmchcjaomcdbmaaGreat.Abs
open Go Go.RowKit Go.ChangeShapes Go.WideShapes Go.ChangeAt
variable {P:Program}
inductive TK where
 | b
 | i (k:IntKind)
 | s (ks:List TK)
def TK.wt:TK→Nat
 | .b=>1
 | .i k=>k.bits/8
 | .s _=>8
def wts:List TK→Nat
 | []=>0
 | k::ks=>k.wt+wts ks
def Zdr (P:Program) (F:TypeId→Option (List TK)):List Field→Nat→Option (List TK)
 | [],_=>some []
 | f::fs,at_=>match decide (f.offset=at_),F f.type with
  | true,some ks=>match decide (P.cellsOf f.type=ks.length) with
   | true=>(Zdr P F fs (at_+ks.length)).map (ks++ ·)
   | false=>none
  | _,_=>none
def QcQ (P:Program):Nat→TypeId→Option (List TK)
 | 0=>fun _=>none
 | d+1=>fun t=>match P.underlying t with
  | some .bool=>some [.b]
  | some (.int k)=>some [.i k]
  | some (.struct fs)=>Zdr P (QcQ P d) fs.toList 0
  | some (.array n e)=>match QcQ P d e with
   | some ks=>match decide (P.cellsOf e=ks.length) with
    | true=>some (List.replicate n ks).flatten
    | false=>none
   | none=>none
  | some (.slice e)=>match QcQ P d e with
   | some ks=>match decide (P.cellsOf e=ks.length),decide (0<ks.length),decide (0<P.bytesOf e∧wts ks≤P.bytesOf e) with
    | true,true,true=>some [.s ks]
    | _,_,_=>none
   | none=>none
  | _=>none
mutual
def Qgh (g:G):TK→Value→Prop
 | .b,v=> ∃b,v= .bool b
 | .i k,v=> ∃n,v= .int k n∧(Lit.int k n).wf=true
 | .s ks,v=> ∃els:List (List Value),Rd g v ks.length els.length els.flatten∧(∀a m c,v= .slice a m c→(c<LC∧c*wts ks≤reachBytes)∧m≤c)∧ ∀c∈els,RepL g ks c
def RepL (g:G):List TK→List Value→Prop
 | [],cs=>cs=[]
 | k::ks,cs=> ∃v r,cs=v::r∧Qgh g k v∧RepL g ks r
end
theorem RepL.len {g:G}: ∀{ks:List TK} {cs:List Value},RepL g ks cs→cs.length=ks.length
 | [],cs,h=>by unfold RepL at h;subst h;rfl
 | k::ks,cs,h=>by unfold RepL at h;obtain ⟨v,r,rfl,_,h⟩:=h;simp [RepL.len h]
theorem RepL.append {g:G}: ∀{a b:List TK} {cs ds:List Value},RepL g a cs→RepL g b ds→RepL g (a++b) (cs++ds)
 | [],b,cs,ds,h,k=>by unfold RepL at h;subst h;simpa using k
 | x::a,b,cs,ds,h,k=>by
  unfold RepL at h
  obtain ⟨v,r,rfl,h1,h2⟩:=h
  show RepL g (x::(a++b)) (v::(r++ds))
  unfold RepL
  exact ⟨v,_,rfl,h1,RepL.append h2 k⟩
def Jeh (w:World) (μ:Mu) (e:Ent):Prop:= ∀cs,e.2=some cs→ ∃cells elem fz,w.heap[e.1.b]? =some (.cells cells elem fz)∧ ∀(i:Nat) (v:Value),cs[i]? =some v→ ∃v',cells[e.1.s+i]? =some v'∧VR μ v v'
theorem Jga {w:World} {es:List Ent} (h: ∀e∈es,Jeh w (JeL es) e):Sim (JeL es) (gOf es) es.length w w.heap.size:=by
 refine ⟨?_,?_,?_,?_,Nat.le_refl _⟩
 ·intro l m hm
  unfold JeL at hm
  rcases Nat.lt_or_ge l es.length with h|h
  ·exact h
  ·rw [List.getElem?_eq_none h] at hm;cases hm
 ·intro l hl
  unfold gOf
  rw [List.getElem?_eq_none hl]
 ·intro l b m hb hm
  unfold gOf at hb
  unfold JeL at hm
  split at hb
  ·rename_i pl cs he
   rw [he] at hm
   simp at hm hb
   subst hm;subst hb
   obtain ⟨cells,elem,fz,h1,h2⟩:=h _ (List.mem_of_getElem? he) cs rfl
   exact ⟨cells,elem,fz,h1,h2,(Array.getElem?_eq_some_iff.1 h1).1⟩
  ·cases hb
 ·intro l l' b b' m m' hb _ hr
  unfold gOf at hb
  split at hb
  ·simp at hb;subst hb;simp [Blk.rw] at hr
  ·cases hb
def Got (w:World) (ks:List TK) (cs:List Value):Prop:=
 ∀l0:Nat,∃(ents:List Ent) (acs:List Value),∀pre post:List Ent,pre.length=l0→
  VRs (JeL (pre++ents++post)) acs cs∧RepL (gOf (pre++ents++post)) ks acs∧ ∀e∈ents,Jeh w (JeL (pre++ents++post)) e
theorem Got.nil {w:World}:Got w [] []:=fun _=>⟨[],[],fun _ _ _=>⟨.nil,rfl,by simp⟩⟩
theorem Got.append {w:World} {k1 k2:List TK} {c1 c2:List Value} (h1:Got w k1 c1) (h2:Got w k2 c2):Got w (k1++k2) (c1++c2):=by
 intro l0
 obtain ⟨e1,a1,h1⟩:=h1 l0
 obtain ⟨e2,a2,h2⟩:=h2 (l0+e1.length)
 refine ⟨e1++e2,a1++a2,fun pre post hp=> ?_⟩
 obtain ⟨v1,r1,o1⟩:=h1 pre (e2++post) hp
 obtain ⟨v2,r2,o2⟩:=h2 (pre++e1) post (by rw [List.length_append,hp])
 have q1:pre++e1++(e2++post)=pre++(e1++e2)++post:=by simp [List.append_assoc]
 have q2:pre++e1++e2++post=pre++(e1++e2)++post:=by simp [List.append_assoc]
 rw [q1] at v1 r1 o1
 rw [q2] at v2 r2 o2
 refine ⟨v1.append v2,r1.append r2,fun e he=> ?_⟩
 rcases List.mem_append.1 he with h|h
 ·exact o1 e h
 ·exact o2 e h
theorem Got.split {w:World} {k1 k2:List TK} {cs:List Value} (h1:Got w k1 (cs.take k1.length)) (h2:Got w k2 (cs.drop k1.length)):Got w (k1++k2) cs:=by
 have:=h1.append h2
 rwa [List.take_append_drop] at this
theorem Got.each {w:World} {ks:List TK}: ∀(els:List (List Value)),(∀c∈els,Got w ks c)→ ∀l0:Nat,∃(ents:List Ent) (as:List (List Value)),as.length=els.length∧ ∀pre post:List Ent,pre.length=l0→
  VRs (JeL (pre++ents++post)) as.flatten els.flatten∧(∀a∈as,RepL (gOf (pre++ents++post)) ks a)∧ ∀e∈ents,Jeh w (JeL (pre++ents++post)) e
 | [],_,l0=>⟨[],[],rfl,fun _ _ _=>⟨.nil,by simp,by simp⟩⟩
 | c::els,h,l0=>by
  obtain ⟨e1,a1,h1⟩:=h c (by simp) l0
  obtain ⟨e2,as,hl,h2⟩:=Got.each els (fun c hc=>h c (by simp [hc])) (l0+e1.length)
  refine ⟨e1++e2,a1::as,by simp [hl],fun pre post hp=> ?_⟩
  obtain ⟨v1,r1,o1⟩:=h1 pre (e2++post) hp
  obtain ⟨v2,r2,o2⟩:=h2 (pre++e1) post (by rw [List.length_append,hp])
  have q1:pre++e1++(e2++post)=pre++(e1++e2)++post:=by simp [List.append_assoc]
  have q2:pre++e1++e2++post=pre++(e1++e2)++post:=by simp [List.append_assoc]
  rw [q1] at v1 r1 o1
  rw [q2] at v2 r2 o2
  refine ⟨v1.append v2,fun a ha=> ?_,fun e he=> ?_⟩
  ·rcases List.mem_cons.1 ha with rfl|ha
   ·exact r1
   ·exact r2 a ha
  ·rcases List.mem_append.1 he with h|h
   ·exact o1 e h
   ·exact o2 e h
theorem Qgy {z:Nat}: ∀(l:List (List Value)),(∀c∈l,c.length=z)→l.flatten.length=l.length*z
 | [],_=>by simp
 | c::l,h=>by simp [Qgy l (fun c hc=>h c (by simp [hc])),h c (by simp),Nat.add_mul];omega
theorem Got.slice {w:World} {base:Nat} {a:Addr} {len cap:Nat} {ks:List TK} {els:List (List Value)} (hz:0<ks.length) (hl:len≤cap) (hlen:els.length=cap) (hcap:cap<LC∧cap*wts ks≤reachBytes)
  (hel: ∀(i:Nat) (c:List Value),els[i]? =some c→Got w ks c∧w.cells? base (a.add (i*ks.length)) ks.length=some c):Got w [.s ks] [.slice (some a) len cap]:=by
 intro l0
 have hcl: ∀c∈els,c.length=ks.length:=fun c hc=>by
  obtain ⟨i,hi⟩:=List.getElem?_of_mem hc
  exact (Jbt (hel i c hi).2).1
 by_cases h0:cap=0
 ·subst h0
  obtain rfl:len=0:=by omega
  refine ⟨[(⟨0,0,0,0⟩,none)],[.slice (some ⟨l0,0,none⟩) 0 0],fun pre post hp=>⟨?_,?_,fun e he cs h=> ?_⟩⟩
  ·refine .cons (.slx (m:=⟨0,0,0,0⟩) 0 0 0 a (by decide) (Nat.le_refl _) ?_ (.inr rfl)) .nil
   simp [JeL,←hp]
  ·unfold RepL
   refine ⟨_,[],rfl,?_,rfl⟩
   unfold Qgh
   exact ⟨[],⟨_,_,rfl,by simp,.inr ⟨l0,0,rfl⟩,fun h=>absurd h (by simp)⟩,fun a m c h=>by cases h;exact ⟨⟨by decide,by rw [Nat.zero_mul];exact Nat.zero_le _⟩,Nat.le_refl _⟩,by simp⟩
  ·simp at he;subst he;cases h
 ·obtain ⟨ents,as,hal,hg⟩:=Got.each els (fun c hc=>by obtain ⟨i,hi⟩:=List.getElem?_of_mem hc;exact (hel i c hi).1) l0
  have hc0: ∃c,els[0]? =some c:=⟨els[0]'(by omega),List.getElem?_eq_getElem (by omega)⟩
  obtain ⟨c0,hc0⟩:=hc0
  obtain ⟨_,hcs0⟩:=hel 0 c0 hc0
  have hcell0:=(Jbt hcs0).2 0 hz
  have hl0:=(Jbt hcs0).1
  rw [List.getElem?_eq_getElem (by omega)] at hcell0
  obtain ⟨hspot,cells,elem,fz,hh,_⟩:=XcG hcell0
  have hspot:a.spot=none:=by simpa [Addr.add] using hspot
  have hh:w.heap[a.block]? =some (.cells cells elem fz):=by simpa [Addr.add] using hh
  have hall: ∀(i:Nat) (v:Value),els.flatten[i]? =some v→cells[a.off+i]? =some v:=by
   intro i v hv
   obtain ⟨c,h1,h2⟩:=XdV hcl hz i v hv
   obtain ⟨hok,hcs⟩:=hel _ c h1
   have hj:=(Jbt hcs).2 (i%ks.length) (Nat.mod_lt _ hz)
   rw [h2] at hj
   obtain ⟨_,cells',elem',fz',hh',hv'⟩:=XcG hj
   have hb:(Addr.add (Addr.add a (i/ks.length*ks.length)) (i%ks.length)).block=a.block:=by rw [ZcR,ZcR]
   have ho:(Addr.add (Addr.add a (i/ks.length*ks.length)) (i%ks.length)).off=a.off+i:=by
    have hx:(Addr.add (Addr.add a (i/ks.length*ks.length)) (i%ks.length)).off=a.off+i/ks.length*ks.length+i%ks.length:=by rw [Jd3,Jd3]
    rw [hx]
    have:=Nat.div_add_mod i ks.length
    rw [Nat.mul_comm] at this
    omega
   rw [hb,hh] at hh'
   cases hh'
   rw [ho] at hv'
   exact hv'
  refine ⟨ents++[(⟨a.block,a.off,0,0⟩,some as.flatten)],[.slice (some ⟨l0+ents.length,0,none⟩) len cap],fun pre post hp=> ?_⟩
  have q:pre++ents++([((⟨a.block,a.off,0,0⟩,some as.flatten):Ent)]++post)=pre++(ents++[(⟨a.block,a.off,0,0⟩,some as.flatten)])++post:=by simp [List.append_assoc]
  obtain ⟨v1,r1,o1⟩:=hg pre ([(⟨a.block,a.off,0,0⟩,some as.flatten)]++post) hp
  rw [q] at v1 r1 o1
  generalize hes:pre++(ents++[((⟨a.block,a.off,0,0⟩,some as.flatten):Ent)])++post=es at v1 r1 o1 ⊢
  have hme:es[l0+ents.length]? =some (⟨a.block,a.off,0,0⟩,some as.flatten):=by
   rw [←hes,←q,←hp,←List.length_append,List.getElem?_append_right (Nat.le_refl _)];simp
  have hasl: ∀x∈as,x.length=ks.length:=fun x hx=>(r1 x hx).len
  refine ⟨.cons ?_ .nil,?_,fun e he=> ?_⟩
  ·refine .slx (m:=⟨a.block,a.off,0,0⟩) 0 len cap a hcap.1 hl (by simp [JeL,hme]) (.inl ?_)
   cases a;simp at hspot;subst hspot;rfl
  ·unfold RepL
   refine ⟨_,[],rfl,?_,rfl⟩
   unfold Qgh
   have htl:(as.take len).length=len:=by rw [List.length_take];omega
   refine ⟨as.take len,?_,fun a m c h=>by cases h;exact ⟨hcap,hl⟩,fun c hc=>r1 c (List.mem_of_mem_take hc)⟩
   rw [htl]
   refine ⟨_,_,rfl,?_,.inr ⟨_,0,rfl⟩,fun _=>⟨l0+ents.length,0,as.flatten,.ro,rfl,by simp [gOf,hme],?_,?_⟩⟩
   ·rw [Qgy _ (fun c hc=>hasl c (List.mem_of_mem_take hc)),htl]
   ·rw [Qgy _ hasl,Nat.zero_add];exact Nat.mul_le_mul_right _ (by omega)
   ·rw [List.drop_zero]
    have e:as.flatten=(as.take len).flatten++(as.drop len).flatten:=by rw [←List.flatten_append,List.take_append_drop]
    have hlt:(as.take len).flatten.length=len*ks.length:=by rw [Qgy _ (fun c hc=>hasl c (List.mem_of_mem_take hc)),htl]
    rw [e,←hlt,List.take_left]
  ·rcases List.mem_append.1 he with h|h
   ·exact o1 e h
   ·simp at h;subst h
    intro cs hcs
    cases hcs
    refine ⟨cells,elem,fz,hh,fun i v hv=> ?_⟩
    obtain ⟨v',hv',hr⟩:=v1.get i v hv
    exact ⟨v',hall i v' hv',hr⟩
section
variable {H:Type} {enc:TypeId×Value→H} {w:World} {base:Nat} {held:Bool}
theorem Xdv {F:TypeId→Option (List TK)} {cs:List Value}:
  ∀(fs:List Field) (at_:Nat) (ks:List TK),Zdr P F fs at_=some ks→cs.length=at_+ks.length→(∀f∈fs,∀k,F f.type=some k→P.cellsOf f.type=k.length→Got w k ((cs.drop f.offset).take (P.cellsOf f.type)))→Got w ks (cs.drop at_)
 | [],at_,ks,h,hl,_=>by
  simp [Zdr] at h;subst h
  rw [List.drop_eq_nil_of_le (by simpa using Nat.le_of_eq hl)];exact Got.nil
 | f::fs,at_,ks,h,hl,hx=>by
  unfold Zdr at h
  split at h
  ·rename_i k1 ho hk1
   split at h
   ·rename_i hc
    obtain ⟨k2,h2,rfl⟩:=Option.map_eq_some_iff.1 h
    have ho:f.offset=at_:=of_decide_eq_true ho
    have hc:P.cellsOf f.type=k1.length:=of_decide_eq_true hc
    have o1:=hx f (by simp) k1 hk1 hc
    rw [ho,hc] at o1
    have o2:=Xdv fs (at_+k1.length) k2 h2 (by simp at hl;omega) (fun f hf=>hx f (by simp [hf]))
    exact Got.split o1 (by rw [List.drop_drop];exact o2)
   ·cases h
  ·cases h
theorem Je5 {k1:List TK} {cs:List Value}: ∀(n s:Nat),(∀i,s≤i→i<s+n→Got w k1 ((cs.drop (i*k1.length)).take k1.length))→cs.length=(s+n)*k1.length→Got w (List.replicate n k1).flatten (cs.drop (s*k1.length))
 | 0,s,_,hl=>by rw [List.drop_eq_nil_of_le (by simpa using Nat.le_of_eq hl)];exact Got.nil
 | n+1,s,h,hl=>by
  have ih:=Je5 n (s+1) (fun i h1 h2=>h i (by omega) (by omega)) (by rw [hl];congr 1;omega)
  rw [List.replicate_succ,List.flatten_cons]
  refine Got.split (h s (Nat.le_refl _) (by omega)) ?_
  rw [List.drop_drop]
  rw [Nat.add_mul,Nat.one_mul] at ih
  exact ih
theorem Jat {P:Program} {e:TypeId}: ∀{ds:List (DataW H)} {d:DataW H},d∈ds→ ∀n∈d.weights P e,n∈DataW.weightsAll P e ds
 | x::ds,d,h,n,hn=>by
  simp only [DataW.weightsAll,List.mem_append]
  rcases List.mem_cons.1 h with rfl|h
  ·exact .inl hn
  ·exact .inr (Jat h n hn)
theorem ZbY: ∀(d fuel:Nat) (t:TypeId) (ks:List TK) (cs:List Value) (x:DataW H×List MemPlace),QcQ P d t=some ks→P.cellsOf t=ks.length→(∀n∈x.1.weights P t,n≤reachBytes)→DataW.trod enc P w base (fun _=>true) held fuel t cs=some x→Got w ks cs
 | 0,_,t,ks,cs,x,hk,_,_,_=>by simp [QcQ] at hk
 | d+1,fuel,t,ks,cs,x,hk,hc,hw,hx=>by
  unfold QcQ at hk
  split at hk
  ·rename_i hu
   simp at hk;subst hk
   obtain ⟨b,rfl,_⟩:=DataW.trod_bool hu hx
   exact fun _=>⟨[],[.bool b],fun _ _ _=>⟨.cons (.bool b) .nil,⟨_,_,rfl,⟨b,rfl⟩,rfl⟩,by simp⟩⟩
  ·rename_i k hu
   simp at hk;subst hk
   obtain ⟨n,rfl,_,hwf⟩:=DataW.trod_int hu hx
   exact fun _=>⟨[],[.int k n],fun _ _ _=>⟨.cons (.int k n) .nil,⟨_,_,rfl,⟨n,rfl,hwf⟩,rfl⟩,by simp⟩⟩
  ·rename_i fs hu
   obtain ⟨xs,n,rfl,hxe,hl,hxl,hel⟩:=DataW.trod_struct hu hx
   have:=Xdv (P:=P) (w:=w) (cs:=cs) (F:=QcQ P d) fs.toList 0 ks hk (by rw [hl,hc];simp) (fun f hf k hk1 hc1=>by
    obtain ⟨i,hi⟩:=List.getElem?_of_mem hf
    have hi':fs[i]? =some f:=by simpa using hi
    have hlt:i<fs.size:=(Array.getElem?_eq_some_iff.1 hi').1
    have hxi:xs[i]? =some (xs[i]'(by omega)):=List.getElem?_eq_getElem (by omega)
    refine ZbY d n f.type k _ (xs[i]'(by omega)) hk1 hc1 (fun m hm=>hw m ?_) (by rw [hel i f hi',hxi])
    rw [hxe]
    simp only [DataW.weights,hu]
    exact DataW.weights_mem_each (j:=i) (by rw [List.getElem?_map,hi];rfl) (by rw [List.getElem?_map,hxi];rfl) m hm)
   simpa using this
  ·rename_i len e hu
   split at hk
   ·rename_i k1 hk1
    split at hk
    ·rename_i hce
     have hce:P.cellsOf e=k1.length:=of_decide_eq_true hce
     simp at hk;subst hk
     obtain ⟨xs,m,rfl,hxe,hl,hxl,hel⟩:=DataW.trod_array hu hx
     have:=Je5 (w:=w) (k1:=k1) (cs:=cs) len 0 (fun i _ hi=>by
      have h1:=hel i (by omega)
      rw [List.getElem?_eq_getElem (by omega)] at h1
      have:=ZbY d m e k1 _ _ hk1 hce (fun q hq=>hw q (by
       rw [hxe];simp only [DataW.weights,hu]
       exact Jat (List.mem_map.2 ⟨_,List.getElem_mem _,rfl⟩) q hq)) h1
      rw [hce] at this
      exact this) (by rw [hl,hc];simp)
     simpa using this
    ·cases hk
   ·cases hk
  ·rename_i e hu
   split at hk
   ·rename_i k1 hk1
    split at hk
    ·rename_i hce hz hb
     have hce:P.cellsOf e=k1.length:=of_decide_eq_true hce
     have hz:0<k1.length:=of_decide_eq_true hz
     obtain ⟨hb,hbw⟩:0<P.bytesOf e∧wts k1≤P.bytesOf e:=of_decide_eq_true hb
     simp at hk;subst hk
     rcases DataW.trod_slice hu hx with ⟨rfl,hxe⟩|⟨a,len,cap,elems,rest,n,rfl,rfl,hxe,_,hl,_,hlen,hel,hsp,_⟩
     ·refine fun _=>⟨[],[.slice none 0 0],fun _ _ _=>⟨.cons .nilslice .nil,⟨_,_,rfl,?_,rfl⟩,by simp⟩⟩
      unfold Qgh
      exact ⟨[],Rd.nil _,fun a m c h=>by cases h;exact ⟨⟨by decide,by rw [Nat.zero_mul];exact Nat.zero_le _⟩,Nat.le_refl _⟩,by simp⟩
     ·obtain ⟨hrl,hr⟩:=hsp rfl
      have hwx: ∀n∈(elems.map (·.1)++rest.map (·.1)).flatMap (fun d:DataW H=>d.weights P e),n≤reachBytes:=by
       intro q hq
       refine hw q ?_
       rw [hxe];simp only [DataW.weights,hu]
       obtain ⟨y,hy,hq⟩:=List.mem_flatMap.1 hq
       rcases List.mem_append.1 hy with hy|hy
       ·exact List.mem_cons_of_mem _ (List.mem_append.2 (.inl (Jat hy q hq)))
       ·exact List.mem_cons_of_mem _ (List.mem_append.2 (.inr (Jat hy q hq)))
      have hcap:cap<LC∧cap*wts k1≤reachBytes:=by
       have h1:=hw ((elems.length+rest.length)*P.bytesOf e) (by rw [hxe];simp [DataW.weights,hu])
       rw [show elems.length+rest.length=cap by omega] at h1
       have h2:cap≤cap*P.bytesOf e:=Nat.le_mul_of_pos_right _ hb
       have h3:=reachBytes_lt
       have:LC=2^62:=by decide
       have h4:cap*wts k1≤cap*P.bytesOf e:=Nat.mul_le_mul_left _ hbw
       omega
      have each: ∀i,i<cap→ ∃c,w.cells? base (a.add (i*k1.length)) k1.length=some c∧Got w k1 c:=by
       intro i hi
       have: ∃y,(w.cells? base (a.add (i*P.cellsOf e)) (P.cellsOf e)).bind (DataW.trod enc P w base (fun _=>true) held n e)=some y∧y.1∈(elems.map (·.1)++rest.map (·.1)):=by
        by_cases hil:i<len
        ·exact ⟨elems[i]'(by omega),by rw [hel i hil,List.getElem?_eq_getElem (by omega)],List.mem_append.2 (.inl (List.mem_map.2 ⟨_,List.getElem_mem _,rfl⟩))⟩
        ·have:=hr (i-len) (by omega)
         rw [show len+(i-len)=i by omega] at this
         exact ⟨rest[i-len]'(by omega),by rw [this,List.getElem?_eq_getElem (by omega)],List.mem_append.2 (.inr (List.mem_map.2 ⟨_,List.getElem_mem _,rfl⟩))⟩
       obtain ⟨y,hy,hym⟩:=this
       obtain ⟨c,h1,h2⟩:=Option.bind_eq_some_iff.1 hy
       rw [hce] at h1
       exact ⟨c,h1,ZbY d n e k1 c y hk1 hce (fun q hq=>hwx q (List.mem_flatMap.2 ⟨_,hym,hq⟩)) h2⟩
      refine Got.slice (base:=base) (els:=(List.range cap).map fun i=>(w.cells? base (a.add (i*k1.length)) k1.length).getD []) hz hl (by simp) hcap (fun i c hi=> ?_)
      rw [List.getElem?_map] at hi
      by_cases hlt:i<cap
      ·rw [List.getElem?_range hlt] at hi
       obtain ⟨c',h1,h2⟩:=each i hlt
       simp [h1] at hi
       subst hi
       exact ⟨h2,h1⟩
      ·rw [List.getElem?_eq_none (by simp;omega)] at hi
       cases hi
    ·cases hk
   ·cases hk
  ·cases hk
end
end Go.Proofs.YtmchcjaomcdbmaaGreat.Abs
namespace Go.Proofs.YtmchcjaomcdbmaaGreat.Abs
open Go Go.RowKit Go.ChangeShapes Go.WideShapes Go.ChangeAt
variable {P:Program}
abbrev AK:=Bool×List TK
def XgK (g:G) (k:AK) (v:Value):Prop:=match k.1 with
 | true=> ∃cs:List Value,v= .agg cs.toArray∧RepL g k.2 cs
 | false=>RepL g k.2 [v]
inductive Zey (g:G):List AK→List Value→Prop
 | nil:Zey g [] []
 | cons {k:AK} {v:Value} {ks:List AK} {vs:List Value}:XgK g k v→Zey g ks vs→Zey g (k::ks) (v::vs)
def Qgz (w:World) (k:AK) (v:Value):Prop:=Got w k.2 v.cells.toList∧match k.1 with
 | true=> ∃xs:Array Value,v= .agg xs
 | false=>v.cells.toList=[v]
inductive QeZ (w:World):List AK→List Value→Prop
 | nil:QeZ w [] []
 | cons {k:AK} {v:Value} {ks:List AK} {vs:List Value}:Qgz w k v→QeZ w ks vs→QeZ w (k::ks) (v::vs)
theorem Ze3 {μ:Mu} {as:List Value} {x:Value} (h:VRs μ as [x]): ∃a,as=[a]∧VR μ a x:=by
 cases h with
 | cons h1 h2=>cases h2;exact ⟨_,rfl,h1⟩
theorem Xeb {w:World}: ∀{ks:List AK} {vs:List Value},QeZ w ks vs→ ∀l0:Nat,∃(ents:List Ent) (avs:List Value),∀pre post:List Ent,pre.length=l0→
  VRs (JeL (pre++ents++post)) avs vs∧Zey (gOf (pre++ents++post)) ks avs∧ ∀e∈ents,Jeh w (JeL (pre++ents++post)) e
 | _,_,.nil,l0=>⟨[],[],fun _ _ _=>⟨.nil,.nil,by simp⟩⟩
 | _,_,.cons (k:=k) (v:=v) hv hvs,l0=>by
  obtain ⟨e1,a1,h1⟩:=hv.1 l0
  obtain ⟨e2,a2,h2⟩:=Xeb hvs (l0+e1.length)
  have hk:=hv.2
  refine ⟨e1++e2,(match k.1 with|true=>Value.agg a1.toArray|false=>a1.headD undef)::a2,fun pre post hp=> ?_⟩
  obtain ⟨v1,r1,o1⟩:=h1 pre (e2++post) hp
  obtain ⟨v2,r2,o2⟩:=h2 (pre++e1) post (by rw [List.length_append,hp])
  have q1:pre++e1++(e2++post)=pre++(e1++e2)++post:=by simp [List.append_assoc]
  have q2:pre++e1++e2++post=pre++(e1++e2)++post:=by simp [List.append_assoc]
  rw [q1] at v1 r1 o1
  rw [q2] at v2 r2 o2
  refine ⟨.cons ?_ v2,.cons ?_ r2,fun e he=> ?_⟩
  ·cases hb:k.1 with
   | true=>
    rw [hb] at hk
    obtain ⟨xs,rfl⟩:=hk
    have:xs=xs.toList.toArray:=by simp
    rw [this]
    exact VRs.agg (by simpa [Value.cells] using v1)
   | false=>
    rw [hb] at hk
    rw [hk] at v1
    obtain ⟨a,rfl,hr⟩:=Ze3 v1
    exact hr
  ·unfold XgK
   cases hb:k.1 with
   | true=>exact ⟨a1,rfl,r1⟩
   | false=>
    rw [hb] at hk
    rw [hk] at v1
    obtain ⟨a,rfl,hr⟩:=Ze3 v1
    exact r1
  ·rcases List.mem_append.1 he with h|h
   ·exact o1 e h
   ·exact o2 e h
section
variable {H:Type} {enc:TypeId×Value→H} {w:World} {base:Nat} {held:Bool}
theorem ZgM {ts:List TypeId} {ds:List (DataW H)} {j d:Nat} {t:TypeId} {ks:List TK} {b:Bool} {v:Value} {dd:DataW H} {p:List MemPlace} (hk:QcQ P d t=some ks) (hc:P.cellsOf t=ks.length)
  (hb:match b with|true=> ∃xs:Array Value,v= .agg xs|false=>v.cells.toList=[v]) (h:DataW.Trod enc P w base (fun _=>true) held t v dd p)
  (hsz:(DataW.weightsEach P ts ds).all (· ≤reachBytes)=true) (htj:ts[j]? =some t) (hdj:ds[j]? =some dd):Qgz w (b,ks) v:=by
 obtain ⟨fuel,hf⟩:=h
 refine ⟨ZbY d fuel t ks _ _ hk hc (fun n hn=> ?_) hf,hb⟩
 have:=List.all_eq_true.1 hsz n (DataW.weights_mem_each htj hdj n hn)
 simpa using this
end
theorem ZdJ (hm:P.follows .mixedOrders=true) {X:XT} (hX:XcE P X) {f:FuncId} {fn:Func} {cargs:Array Value} {w:World} {ks:List AK} (hf:P.funcs[f]? =some fn) (hb:fn.body.isSome=true) (hn:(fn.name== "runtime.NumGoroutine")=false)
  (hg:QeZ w ks cargs.toList) (h: ∀(g:G) (n:Nat) (args:List Value),Zey g ks args→ ∀K:Cont,(∀g' n',K (.bool true) g' n')→ACalls P X f args g n K):
  Calls P f cargs w fun e w'=>e= .returned (.bool true)∧Below w.heap.size w w':=by
 obtain ⟨ents,avs,ha⟩:=Xeb hg 0
 obtain ⟨h1,h2,h3⟩:=ha [] [] rfl
 simp only [List.nil_append,List.append_nil] at h1 h2 h3
 refine Calls.mono (Xcv (Xcy hm) hX hf hb hn (Jga h3) h1 (h _ _ _ h2 (fun v _ _=>v= .bool true) fun _ _=>rfl)) fun e w' he=> ?_
 cases e with
 | returned v'=>
  obtain ⟨v,g,n,μ',hk,hvr,_,_,hbel⟩:=he
  subst hk
  cases hvr
  exact ⟨rfl,hbel⟩
 | panicked c=>exact he.elim
 | outgrown=>exact he.elim
theorem Qcj {g:G} {k:IntKind} {ks:List TK} {cs:List Value} (h:RepL g (.i k::ks) cs): ∃a r,cs= .int k a::r∧(Lit.int k a).wf=true∧RepL g ks r:=by
 unfold RepL at h;obtain ⟨v,r,rfl,h1,h⟩:=h;unfold Qgh at h1;obtain ⟨a,rfl,hw⟩:=h1;exact ⟨a,r,rfl,hw,h⟩
theorem Xfg {g:G} {cs:List Value} (h:RepL g [] cs):cs=[]:=by unfold RepL at h;exact h
end Go.Proofs.YtmchcjaomcdbmaaGreat.Abs
