import Derived.ChangeOld
import Derived.Laws.LoneSync
import Derived.OpenShut
import Derived.ProofKit
import Derived.ShutString
import Derived.SizedLaws
import Derived.WalkKit
import Derived.Test.YtmchcjaomcdbmaaGreatAbsB
/- An evaluator for closed runs, sound for the machine; how arguments come in. -/
set_option linter.all false
set_option linter.deprecated false
namespace Go.Proofs.YtmchcjaomcdbmaaGreat.Abs
open Go Go.RowKit
section
def Zb4 (n:Nat) (k:Nat→Bool):Bool:=match n with
 | 0=>k 0
 | m+1=>k (m+1)
def Zev (i:Int) (k:Int→Bool):Bool:=match i with
 | .ofNat n=>Zb4 n λn=>k (.ofNat n)
 | .negSucc n=>Zb4 n λn=>k (.negSucc n)
def fB (b:Bool) (k:Bool→Bool):Bool:=match b with
 | true=>k true
 | false=>k false
def fV (v:Value) (k:Value→Bool):Bool:=match v with
 | .int kd i=>k (.int kd i)
 | .bool b=>k (.bool b)
 | .pointer a=>k (.pointer a)
 | .slice a m c=>k (.slice a m c)
 | v=>k v
def fVd (v:Value) (k:Value→Bool):Bool:=match v with
 | .int kd i=>Zev i λi=>k (.int kd i)
 | .bool b=>fB b λb=>k (.bool b)
 | .pointer (some ⟨l,o,none⟩)=>Zb4 l λl=>Zb4 o λo=>k (.pointer (some ⟨l,o,none⟩))
 | .slice (some ⟨l,o,none⟩) m c=>Zb4 l λl=>Zb4 o λo=>Zb4 m λm=>Zb4 c λc=>k (.slice (some ⟨l,o,none⟩) m c)
 | v=>k v
def fL:List Value→(List Value→Bool)→Bool
 | [],k=>k []
 | v::l,k=>fL l λl=>k (v::l)
theorem Q0 (n:Nat) (k:Nat→Bool):Zb4 n k=k n:=by cases n<;>rfl
theorem Qda (n:Int) (k:Int→Bool):Zev n k=k n:=by cases n<;>simp [Zev,Q0]
theorem Xha (n:Bool) (k:Bool→Bool):fB n k=k n:=by cases n<;>rfl
theorem JdS (v:Value) (k:Value→Bool):fV v k=k v:=by
 unfold fV;split<;>rfl
theorem Qgm (v:Value) (k:Value→Bool):fVd v k=k v:=by
 unfold fVd;split<;>simp [Q0,Qda,Xha]
theorem JdX: ∀(l:List Value) (k:List Value→Bool),fL l k=k l
 | [],_=>rfl
 | v::l,k=>by simp only [fL];rw [JdX l]
inductive Tr where
 | nil
 | node (l:Tr) (b:Option Blk) (r:Tr)
def Tr.get:Tr→Nat→Option Blk
 | .nil,_=>none
 | .node l b r,i=>match Nat.beq i 0 with
  | true=>b
  | false=>match Nat.beq (i%2) 1 with
   | true=>l.get ((i-1)/2)
   | false=>r.get ((i-2)/2)
def Tr.setK:Nat→Tr→Nat→Option Blk→(Tr→Bool)→Bool
 | 0,_,_,_,_=>false
 | d+1,t,i,b,k=>match t with
  | .nil=>(match Nat.beq i 0 with
   | true=>k (.node .nil b .nil)
   | false=>match Nat.beq (i%2) 1 with
    | true=>Zb4 ((i-1)/2) λj=>setK d .nil j b λl=>k (.node l none .nil)
    | false=>Zb4 ((i-2)/2) λj=>setK d .nil j b λr=>k (.node .nil none r))
  | .node l b0 r=>match Nat.beq i 0 with
   | true=>k (.node l b r)
   | false=>match Nat.beq (i%2) 1 with
    | true=>Zb4 ((i-1)/2) λj=>setK d l j b λl=>k (.node l b0 r)
    | false=>Zb4 ((i-2)/2) λj=>setK d r j b λr=>k (.node l b0 r)
theorem Zga (a b:Nat):Nat.beq a b=decide (a=b):=by
 cases hb:Nat.beq a b with
 | true=>simp [Nat.eq_of_beq_eq_true hb]
 | false=>simp [Nat.ne_of_beq_eq_false hb]
theorem Tr.setK_s: ∀(d:Nat) (t:Tr) (i:Nat) (b:Option Blk) (k:Tr→Bool),t.setK d i b k=true→ ∃t':Tr,t'.get=upd t.get i b∧k t'=true
 | 0,_,_,_,_,h=>by simp [setK] at h
 | d+1,t,i,b,k,h=>by
  have key: ∀(l:Tr) (J:Option Blk) (r:Tr),(match Nat.beq i 0 with
   | true=>k (.node l b r)
   | false=>match Nat.beq (i%2) 1 with
    | true=>Zb4 ((i-1)/2) λj=>setK d l j b λl=>k (.node l J r)
    | false=>Zb4 ((i-2)/2) λj=>setK d r j b λr=>k (.node l J r))=true→ ∃t':Tr,t'.get=upd (Tr.node l J r).get i b∧k t'=true:=by
   clear h
   intro l J r h
   simp only [Q0,Zga] at h
   split at h
   ·rename_i I
    have I:i=0:=by simpa using I
    subst I
    refine ⟨_,?_,h⟩
    funext j
    by_cases hj:j=0
    ·subst hj;rw [Xa];rfl
    ·rw [Zd _ _ hj];simp only [Tr.get,Zga,decide_eq_false hj]
   ·rename_i I
    have I:i≠0:=by simpa using I
    split at h
    ·rename_i E
     have E:i%2=1:=by simpa using E
     obtain ⟨t',O,Q⟩:=setK_s d _ _ _ _ h
     refine ⟨_,?_,Q⟩
     funext j
     by_cases hj:j=i
     ·subst hj;rw [Xa];simp only [Tr.get,Zga,decide_eq_false I,E,decide_true,O,Xa]
     ·rw [Zd _ _ hj]
      simp only [Tr.get,Zga]
      by_cases j0:j=0
      ·simp [j0]
      ·simp only [decide_eq_false j0]
       by_cases j1:j%2=1
       ·simp only [decide_eq_true j1,O]
        rw [Zd];omega
       ·simp only [decide_eq_false j1]
    ·rename_i E
     have E: ¬i%2=1:=by simpa using E
     obtain ⟨t',O,Q⟩:=setK_s d _ _ _ _ h
     refine ⟨_,?_,Q⟩
     funext j
     by_cases hj:j=i
     ·subst hj;rw [Xa];simp only [Tr.get,Zga,decide_eq_false I,decide_eq_false E,O,Xa]
     ·rw [Zd _ _ hj]
      simp only [Tr.get,Zga]
      by_cases j0:j=0
      ·simp [j0]
      ·simp only [decide_eq_false j0]
       by_cases j1:j%2=1
       ·simp only [decide_eq_true j1]
       ·simp only [decide_eq_false j1,O]
        rw [Zd];omega
  cases t with
  | nil=>
   obtain ⟨t',E,U⟩:=key .nil none .nil h
   refine ⟨t',?_,U⟩
   rw [E]
   congr 1
   funext j
   simp only [Tr.get]
   split<;>first|rfl|(split<;>rfl)
  | node l J r=>exact key l J r h
def XdX (t:List Value):Env:=λi=>t.getD i undef
def Xg6:List Value→Nat→Value→(List Value→Bool)→Bool
 | [],_,_,_=>false
 | _::l,0,v,k=>k (v::l)
 | x::l,i+1,v,k=>Xg6 l i v λl=>k (x::l)
theorem Qge: ∀(t:List Value) (i:Nat) (v:Value) (k:List Value→Bool),Xg6 t i v k=true→i<t.length∧k (t.set i v)=true
 | [],_,_,_,h=>by simp [Xg6] at h
 | _::l,0,v,k,h=>⟨by simp,h⟩
 | x::l,i+1,v,k,h=>by
  obtain ⟨E,j⟩:=Qge l i v _ h
  exact ⟨by simp;omega,j⟩
theorem XgZ (t:List Value) (i:Nat) (v:Value) (E:i<t.length):XdX (t.set i v)=put (XdX t) (some i) v:=by
 funext j
 simp only [XdX,put,List.getD_eq_getElem?_getD,List.getElem?_set]
 by_cases h:i=j
 ·subst h;simp [E]
 ·rw [if_neg h,if_neg (λe=>h e.symm)]
def JhK (t:List Value) (d:Option Tmp) (v:Value) (k:List Value→Bool):Bool:=match d with
 | some i=>Xg6 t i v k
 | none=>k t
theorem Qh3 {t:List Value} {d:Option Tmp} {v:Value} {k:List Value→Bool} (h:JhK t d v k=true): ∃t',XdX t'=put (XdX t) d v∧t'.length=t.length∧k t'=true:=by
 cases d with
 | none=>exact ⟨t,rfl,rfl,h⟩
 | some i=>
  obtain ⟨j,E⟩:=Qge _ _ _ _ h
  exact ⟨_,XgZ _ _ _ j,by simp,E⟩
end
section
variable {P:Program}
abbrev EK1:=Value→Bool
abbrev EC:=Value→Tr→Nat→Bool
def ZaZ:List UInt8→List UInt8→Bool
 | [],[]=>true
 | x::xs,y::ys=>Nat.beq x.toNat y.toNat&&ZaZ xs ys
 | _,_=>false
theorem Jcz: ∀{a b:List UInt8},ZaZ a b=true→a=b
 | [],[],_=>rfl
 | x::xs,y::ys,h=>by
  simp only [ZaZ,Zga,Bool.and_eq_true,decide_eq_true_eq] at h
  rw [UInt8.toNat_inj.1 h.1,Jcz h.2]
 | [],_::_,h=>by cases h
 | _::_,[],h=>by cases h
theorem Qdr: ∀(a:List UInt8),ZaZ a a=true
 | []=>rfl
 | x::xs=>by simp only [ZaZ,Zga,decide_true,Bool.true_and];exact Qdr xs
def QhL (v:Value) (k:Bool→Bool):Bool:=match v with| .bool b=>k b|_=>false
def Xhi (v:Value) (k:Int→Bool):Bool:=match v with| .int _ i=>k i|_=>false
def Xhp (v:Value) (k:Nat→Nat→Bool):Bool:=match v with| .pointer (some ⟨l,o,none⟩)=>k l o|_=>false
def QhN (v:Value) (k:List Value→Bool):Bool:=match v with| .agg cs=>k cs.toList|_=>false
def QdJ (h:Tr) (l:Nat) (k:List Value→BK→Bool):Bool:=match h.get l with|some (.cells cs b)=>k cs b|_=>false
def QhV (cs:List Value) (o:Nat) (k:EK1):Bool:=match cs[o]? with|some v=>k v|none=>false
def eLd (h:Tr) (l o:Nat) (k:EK1):Bool:=QdJ h l λcs _=>QhV cs o k
def Xh8 (h:Tr) (l o z:Nat) (k:List Value→Bool):Bool:=QdJ h l λcs _=>decide (o+z≤cs.length)&&fL ((cs.drop o).take z) k
def eNew (cs:List Value) (b:BK) (h:Tr) (n:Nat) (k:Nat→Tr→Nat→Bool):Bool:=fL cs λcs=>Zb4 (n+1) λm=>h.setK 20 n (some (.cells cs b)) λh=>k n h m
def eSt (h:Tr) (l o:Nat) (v:Value) (k:Tr→Bool):Bool:=QdJ h l λcs b=>b.rw&&(decide (o<cs.length)&&(isCell v&&fL (cs.set o v) λcs=>h.setK 20 l (some (.cells cs b)) k))
def Xh1 (h:Tr) (l o:Nat) (vs:List Value) (k:Tr→Bool):Bool:=
 QdJ h l λcs b=>b.rw&&(decide (o+vs.length≤cs.length)&&(vs.all isCell&&fL (splice cs o vs) λcs=>h.setK 20 l (some (.cells cs b)) k))
def Jfb (op:BinOp) (k:IntKind) (a b:Int) (K:EK1):Bool:=
 match op with
 | .add=>Zev (k.wrap (a+b)) λi=>K (.int k i)
 | .sub=>Zev (k.wrap (a-b)) λi=>K (.int k i)
 | .mul=>Zev (k.wrap (a*b)) λi=>K (.int k i)
 | .quo=> !(decide (b=0))&&Zev (k.wrap (a.tdiv b)) λi=>K (.int k i)
 | .rem=> !(decide (b=0))&&Zev (a.tmod b) λi=>K (.int k i)
 | .and=>Zev (k.wrap (BitVec.ofInt k.bits a &&& BitVec.ofInt k.bits b).toNat) λi=>K (.int k i)
 | .or=>Zev (k.wrap (BitVec.ofInt k.bits a ||| BitVec.ofInt k.bits b).toNat) λi=>K (.int k i)
 | .xor=>Zev (k.wrap (BitVec.ofInt k.bits a ^^^ BitVec.ofInt k.bits b).toNat) λi=>K (.int k i)
 | .andNot=>Zev (k.wrap (BitVec.ofInt k.bits a &&& ~~~BitVec.ofInt k.bits b).toNat) λi=>K (.int k i)
 | .eql=>fB (a==b) λb=>K (.bool b)
 | .neq=>fB (a !=b) λb=>K (.bool b)
 | .lss=>fB (decide (a<b)) λb=>K (.bool b)
 | .leq=>fB (decide (a≤b)) λb=>K (.bool b)
 | .gtr=>fB (decide (a>b)) λb=>K (.bool b)
 | .geq=>fB (decide (a≥b)) λb=>K (.bool b)
 | .shl=>decide (0≤b)&&Zev (k.wrap (a*2^(min b.toNat k.bits))) λi=>K (.int k i)
 | .shr=>decide (0≤b)&&Zev (a.fdiv (2^(min b.toNat k.bits))) λi=>K (.int k i)
def Jho (op:BinOp) (r:Bool) (K:EK1):Bool:=
 match op with
 | .eql=>fB r λr=>K (.bool r)
 | .neq=>fB (!r) λr=>K (.bool r)
 | _=>false
def XhV (op:BinOp) (k k':IntKind):Bool:=match op with| .shl| .shr=>true|_=>decide (k=k')
def Qic (e:EK) (op:BinOp) (x y:Value) (K:EK1):Bool:=
 match e with
 | .int=>match x,y with
  | .int k a,.int k' b=>XhV op k k'&&Jfb op k a b K
  | _,_=>false
 | .bool=>match x,y with
  | .bool a,.bool b=>Jho op (a==b) K
  | _,_=>false
 | .ptr=>match x,y with
  | .pointer none,.pointer q=>Jho op q.isNone K
  | .pointer (some _),.pointer none=>Jho op false K
  | _,_=>false
 | .slice=>match x,y with
  | .slice a _ _,.slice none _ _=>Jho op a.isNone K
  | _,_=>false
 | .agg ks=>match x,y with
  | .agg xs,.agg ys=>match Zo ks xs.toList ys.toList with
   | some r=>Jho op r K
   | none=>false
  | _,_=>false
 | .str=>match x,y with
  | .string a,.string b=>Jho op (ZaZ a.data.toList b.data.toList) K
  | _,_=>false
 | .other=>false
def eUn (op:UnOp) (x:Value) (K:EK1):Bool:=
 match op,x with
 | .not,.bool b=>fB (!b) λb=>K (.bool b)
 | .neg,.int k a=>Zev (k.wrap (0-a)) λi=>K (.int k i)
 | _,_=>false
def JhC (dst:IntKind) (x:Value) (K:EK1):Bool:=match x with| .int _ a=>Zev (dst.wrap a) λi=>K (.int dst i)|_=>false
def Jic (x:Value) (K:EK1):Bool:=match x with
 | .pointer (some a)=>K (.pointer (some a))
 | .func (.func f) a b=>K (.func (.func f) a b)
 | .slice a n c=>K (.slice a n c)
 | .int k n=>K (.int k n)
 | .bool b=>K (.bool b)
 | _=>false
def Zd0 (x:Value) (off:Nat) (K:EK1):Bool:=Xhp x λl o=>Zb4 (o+off) λo=>K (ptr l o)
def Xc3 (x i:Value) (z:Nat) (K:EK1):Bool:=
 match x,i with
 | .slice (some ⟨l,o,none⟩) len _,.int _ j=>decide (0≤j)&&(decide (j<len)&&Zb4 (o+j.toNat*z) λo=>K (ptr l o))
 | _,_=>false
def Zdz (x i:Value) (len z:Nat) (K:EK1):Bool:=
 match x,i with
 | .pointer (some ⟨l,o,none⟩),.int _ j=>decide (0≤j)&&(decide (j<len)&&Zb4 (o+j.toNat*z) λo=>K (ptr l o))
 | _,_=>false
def Xg9 (cs:List Value) (off:Nat) (agg:Option Nat) (K:EK1):Bool:=
 match agg with
 | none=>QhV cs off K
 | some k=>decide (off+k≤cs.length)&&fL ((cs.drop off).take k) λcs=>K (.agg cs.toArray)
def Qim (x i:Value) (len z:Nat) (agg:Option Nat) (K:EK1):Bool:=
 QhN x λcs=>Xhi i λj=>decide (0≤j)&&(decide (j<len)&&Xg9 cs (j.toNat*z) agg K)
def Xer (x:Value) (i:Nat) (K:EK1):Bool:=match x with| .tuple vs=>QhV vs.toList i K|_=>false
def Qid (x:Value) (K:EK1):Bool:=match x with| .slice _ n _=>K (.int .i64 n)|_=>false
def QcT (x:Option Value) (d m:Nat) (K:Nat→Bool):Bool:=
 match x with
 | none=>K d
 | some v=>Xhi v λi=>decide (0≤i)&&(decide (i≤m)&&Zb4 i.toNat K)
def ZgF (x:Value) (lo hi mx:Option Value) (z:Nat) (K:EK1):Bool:=
 match x with
 | .slice a len c=>
  bif decide (c<LC) then
   QcT mx c c λm=>QcT hi len m λh=>QcT lo 0 h λl=>fVd (.slice (if m=l then a else a.map (·.add (l*z))) (h-l) (m-l)) K
  else
   decide (c=LC+z)&&match mx with
   | none=>QcT hi len len λh=>QcT lo 0 h λl=>fVd (.slice (a.map (·.add (l*z))) (h-l) (LC+z)) K
   | some mx=>QcT (some mx) 0 len λm=>decide (m<LC)&&QcT hi 0 m λh=>QcT lo 0 h λl=>fVd (.slice (a.map (·.add (l*z))) (h-l) (m-l)) K
 | _=>false
def Jew (h:Tr) (x:Value) (k z:Nat) (K:List Value→Bool):Bool:=
 match x with
 | .slice none _ _=>decide (k*z=0)&&K []
 | .slice (some ⟨l,o,none⟩) _ _=>bif decide (k*z=0) then K [] else Xh8 h l o (k*z) K
 | _=>false
def Qe8 (s x:Value) (z bytes:Nat) (h:Tr) (n:Nat) (K:EC):Bool:=
 match s,x with
 | .slice base len c,.slice _ k _=>
  decide (bytes≤1048576)&&(decide ((len+k)*bytes≤140737488355328)&&(decide (len+k<140737488355328)&&Jew h x k z λnew=>new.all isCell&&
  bif decide (c<LC) then
   bif decide (len+k≤c) then
    match base with
    | none=>new.isEmpty&&Zb4 (len+k) λm=>K (.slice none m c) h n
    | some ⟨l,o,none⟩=>bif new.isEmpty then Zb4 (len+k) λm=>K (.slice (some ⟨l,o,none⟩) m c) h n else Xh1 h l (o+len*z) new λh=>Zb4 (len+k) λm=>K (.slice (some ⟨l,o,none⟩) m c) h n
    | _=>false
   else Jew h s len z λold=>eNew (old++new) (.loose z) h n λl h n=>Zb4 (len+k) λm=>K (.slice (some ⟨l,0,none⟩) m (LC+z)) h n
  else match base with
   | some ⟨l,o,none⟩=>decide (c=LC+z)&&QdJ h l λcs bk=>(match bk with| .loose z'=>decide (z'=z)|_=>false)&&(decide (o+len*z≤cs.length)&&
     h.setK 20 l none λh=>eNew (((cs.drop o).take (len*z))++new) (.loose z) h n λl h n=>Zb4 (len+k) λm=>K (.slice (some ⟨l,0,none⟩) m (LC+z)) h n)
   | _=>false))
 | _,_=>false
def Zeq (s x:Value) (zero:List Value) (bytes:Nat) (h:Tr) (n:Nat) (K:EC):Bool:=
 match s,x with
 | .slice none 0 0,.int .i64 a=>decide (0<zero.length)&&(decide (0<a)&&(decide (a<1099511627776)&&(decide (a.toNat*bytes≤1099511627776)&&
  eNew (reps a.toNat zero) (.loose zero.length) h n λl h n=>Zb4 a.toNat λm=>K (.slice (some ⟨l,0,none⟩) m (LC+zero.length)) h n)))
 | _,_=>false
def QhA (d s:Value) (z:Nat) (h:Tr) (K:Value→Tr→Bool):Bool:=
 match d,s with
 | .slice base len _,.slice _ k _=>Jew h s (min k len) z λnew=>new.all isCell&&
  match base with
  | none=>Zb4 (min k len) λm=>K (.int .i64 (m:Nat)) h
  | some ⟨l,o,none⟩=>bif new.isEmpty then Zb4 (min k len) λm=>K (.int .i64 (m:Nat)) h else Xh1 h l o new λh=>Zb4 (min k len) λm=>K (.int .i64 (m:Nat)) h
  | _=>false
 | _,_=>false
def JgA (x:Value) (zero:List Value) (h:Tr) (K:Value→Tr→Bool):Bool:=
 match x with
 | .slice none _ _=>K undef h
 | .slice (some ⟨l,o,none⟩) len _=>bif decide (len=0)||zero.isEmpty then K undef h else Xh1 h l o (reps len zero) λh=>K undef h
 | _=>false
def Jh3 (len cap:Value) (zero:List Value) (bytes:Nat) (h:Tr) (n:Nat) (K:EC):Bool:=
 Xhi len λa=>Xhi cap λc=>decide (0≤a)&&(decide (a≤c)&&(decide (c*bytes≤1099511627776)&&(decide (c≤1099511627776)&&
  eNew (reps c.toNat zero) .exact h n λl h n=>Zb4 a.toNat λa=>Zb4 c.toNat λc=>K (.slice (some ⟨l,0,none⟩) a c) h n)))
def Zff (cs:List Value):List (Nat×Option Nat×Value)→(List Value→Bool)→Bool
 | [],K=>K cs
 |(off,none,v)::r,K=>isCell v&&(decide (off<cs.length)&&Zff (cs.set off v) r K)
 |(off,some k,v)::r,K=>QhN v λvs=>decide (vs.length=k)&&(decide (off+k≤cs.length)&&Zff (splice cs off vs) r K)
abbrev EM:=List (Value×Value)
def fP:EM→(EM→Bool)→Bool
 | [],k=>k []
 | e::l,k=>fP l λl=>k (e::l)
theorem XhY: ∀(l:EM) (k:EM→Bool),fP l k=k l
 | [],_=>rfl
 | v::l,k=>by simp only [fP];rw [XhY l]
def Jhj (h:Tr) (l:Nat) (k:EM→Bool):Bool:=match h.get l with|some (.map es)=>k es|_=>false
def Zh5 (kk:IntKind) (key:Value) (K:Int→Bool):Bool:=match key with| .int k a=>decide (k=kk)&&K a|_=>false
def XgK (kk:IntKind) (a:Int) (es:EM) (K:Option Nat→Bool):Bool:=match Jef kk a es 0 with|some r=>K r|none=>false
def eAt (es:EM) (i:Nat) (K:Value×Value→Bool):Bool:=match es[i]? with|some e=>K e|none=>false
def Qgx (b:Blk) (h:Tr) (n:Nat) (K:Nat→Tr→Nat→Bool):Bool:=Zb4 (n+1) λm=>h.setK 20 n (some b) λh=>K n h m
def Je3 (h:Tr) (l:Nat) (es:EM) (K:Tr→Bool):Bool:=fP es λes=>h.setK 20 l (some (.map es)) K
def Xgo (kk:IntKind) (x ix z:Value) (ok:Bool) (h:Tr) (K:EK1):Bool:=
 Zh5 kk ix λa=>match x with
 | .map none=>K (match ok with|true=> .tuple #[z,.bool false]|false=>z)
 | .map (some l)=>Jhj h l λes=>XgK kk a es λr=>match r with
  | some i=>eAt es i λe=>K (match ok with|true=> .tuple #[e.2,.bool true]|false=>e.2)
  | none=>K (match ok with|true=> .tuple #[z,.bool false]|false=>z)
 | _=>false
def Qgb (kk:IntKind) (m key x:Value) (h:Tr) (K:Tr→Bool):Bool:=
 Zh5 kk key λa=>match m with
 | .map (some l)=>Jhj h l λes=>XgK kk a es λr=>match r with
  | some i=>Je3 h l (es.set i (.int kk a,x)) K
  | none=>Je3 h l (es++[(.int kk a,x)]) K
 | _=>false
def Qez (kk:IntKind) (m key z:Value) (h:Tr) (K:Value→Tr→Bool):Bool:=
 Zh5 kk key λa=>match m with
 | .map (some l)=>Jhj h l λes=>XgK kk a es λr=>match r with
  | some i=>eAt es i λe=>Je3 h l (es.set i (.int kk a,e.2)) λh=>K (.tuple #[e.2,.int .i64 i]) h
  | none=>Je3 h l (es++[(.int kk a,z)]) λh=>K (.tuple #[z,.int .i64 es.length]) h
 | _=>false
def Zdu (m s x:Value) (h:Tr) (K:Tr→Bool):Bool:=
 Xhi s λj=>match m with
 | .map (some l)=>Jhj h l λes=>decide (0≤j)&&eAt es j.toNat λe=>Je3 h l (es.set j.toNat (e.1,x)) K
 | _=>false
def Xgw (x:Value) (h:Tr) (n:Nat) (K:Nat→Tr→Nat→Bool):Bool:=
 match x with
 | .map (some l)=>Jhj h l λes=>Zb4 es.length λc=>Qgx (.iter l c []) h n K
 | _=>false
def JgZ (it:Value) (h:Tr) (K:Nat→Nat→EM→List Nat→Bool):Bool:=
 match it with
 | .pointer (some ⟨p,0,none⟩)=>match h.get p with
  | some (.iter l cnt seen)=>Jhj h l λes=>decide (es.length=cnt)&&K p l es seen
  | _=>false
 | _=>false
def Zhf (F:Nat→Value×Value→Bool) (seen:List Nat):Nat→EM→Bool
 | _,[]=>true
 | i,e::es=>(bif seen.contains i then true else F i e)&&Zhf F seen (i+1) es
def JhZ (it:Value) (h:Tr) (K:Value→Tr→Bool):Bool:=
 JgZ it h λp l es seen=>(bif (List.range es.length).all seen.contains then K (.tuple #[.bool false]) h else true)&&
  Zhf (λi kv=>Zb4 i λi=>h.setK 20 p (some (.iter l es.length (seen++[i]))) λh=>K (.tuple #[.bool true,kv.1,kv.2]) h) seen 0 es
def Zhl (it:Value) (h:Tr) (K:EK1):Bool:=
 JgZ it h λ_ _ es seen=>match seen.getLast? with
 | some i=>eAt es i λkv=>K (.tuple #[kv.1,kv.2])
 | none=>false
def Xib (x:Value) (K:EK1):Bool:=match x with| .slice _ _ c=>(bif decide (c<LC) then K (.int .i64 (c:Nat)) else false)|_=>false
def QhK (x:Value) (K:EK1):Bool:=match x with| .string s=>Zb4 s.size λm=>K (.int .i64 (m:Nat))|_=>false
def Jhq (x i:Value) (K:EK1):Bool:=
 match x,i with
 | .string s,.int _ j=>decide (0≤j)&&(match s[j.toNat]? with|some b=>Zb4 b.toNat λm=>K (.int .u8 (m:Nat))|none=>false)
 | _,_=>false
section
variable {h:Tr} {n:Nat}
theorem QhD {v:Value} {k:Bool→Bool} {K:Bool→Prop} (j: ∀b,k b=true→K b) (e:QhL v k=true):Jbz v K:=by
 unfold QhL at e;unfold Jbz;split at e<;>first|exact j _ e|cases e
theorem Jd7 {v:Value} {k:Int→Bool} {K:Int→Prop} (j: ∀b,k b=true→K b) (e:Xhi v k=true):XfC v K:=by
 unfold Xhi at e;unfold XfC;split at e<;>first|exact j _ e|cases e
theorem JeK {v:Value} {k:Nat→Nat→Bool} {K:Nat→Nat→Prop} (j: ∀l o,k l o=true→K l o) (e:Xhp v k=true):Xc v K:=by
 unfold Xhp at e;unfold Xc;split at e<;>first|exact j _ _ e|cases e
theorem QeS {v:Value} {k:List Value→Bool} {K:List Value→Prop} (j: ∀b,k b=true→K b) (e:QhN v k=true):Jj v K:=by
 unfold QhN at e;unfold Jj;split at e<;>first|exact j _ e|cases e
theorem JcQ {l:Nat} {k:List Value→BK→Bool} {K:List Value→BK→Prop} (j: ∀c b,k c b=true→K c b) (e:QdJ h l k=true):ZaP h.get l K:=by
 unfold QdJ at e;unfold ZaP;split at e
 ·rename_i cs b E;rw [E];exact j _ _ e
 ·cases e
theorem JgH {cs:List Value} {o:Nat} {k:EK1} {K:Value→Prop} (j: ∀b,k b=true→K b) (e:QhV cs o k=true):Zef cs o K:=by
 unfold QhV at e;unfold Zef;split at e
 ·rename_i v E;rw [E];exact j _ e
 ·cases e
theorem Qff {l o:Nat} {k:EK1} {K:Value→Prop} (j: ∀b,k b=true→K b) (e:eLd h l o k=true):kLd h.get l o K:=JcQ (λ_ _=>JgH j) e
theorem ZgA {l o z:Nat} {k:List Value→Bool} {K:List Value→Prop} (j: ∀b,k b=true→K b) (e:Xh8 h l o z k=true):Ql h.get l o z K:=
 JcQ (λ_ _ e=>by simp only [Bool.and_eq_true,decide_eq_true_eq,JdX] at e;exact ⟨e.1,j _ e.2⟩) e
theorem Qdc {cs:List Value} {b:BK} {k:Nat→Tr→Nat→Bool} {K:Nat→G→Nat→Prop} (j: ∀l h n,k l h n=true→K l h.get n) (e:eNew cs b h n k=true):Zl cs b h.get n K:=by
 intro _
 simp only [eNew,JdX,Q0] at e
 obtain ⟨t,E,e⟩:=Tr.setK_s _ _ _ _ _ e
 rw [←E];exact j _ _ _ e
theorem XfG {l o:Nat} {v:Value} {k:Tr→Bool} {K:G→Prop} (j: ∀h,k h=true→K h.get) (e:eSt h l o v k=true):kSt h.get l o v K:=
 JcQ (λcs b e=>by
  simp only [Bool.and_eq_true,decide_eq_true_eq,JdX] at e
  obtain ⟨e1,e2,e3,e⟩:=e
  obtain ⟨t,E,e⟩:=Tr.setK_s _ _ _ _ _ e
  exact ⟨e1,e2,e3,by rw [←E];exact j _ e⟩) e
theorem JfC {l o:Nat} {vs:List Value} {k:Tr→Bool} {K:G→Prop} (j: ∀h,k h=true→K h.get) (e:Xh1 h l o vs k=true):Qu h.get l o vs K:=
 JcQ (λcs b e=>by
  simp only [Bool.and_eq_true,decide_eq_true_eq,JdX] at e
  obtain ⟨e1,e2,e3,e⟩:=e
  obtain ⟨t,E,e⟩:=Tr.setK_s _ _ _ _ _ e
  exact ⟨e1,e2,List.all_eq_true.1 e3,by rw [←E];exact j _ e⟩) e
theorem Jgx {op:BinOp} {j:IntKind} {a b:Int} {k:EK1} {K:Value→Prop} (E: ∀b,k b=true→K b) (e:Jfb op j a b k=true):ZH op j a b K:=by
 cases op<;>simp only [Jfb,Qda,Xha,Bool.and_eq_true,Bool.not_eq_true',decide_eq_false_iff_not,decide_eq_true_eq] at e<;>simp only [ZH]<;>
  first|exact E _ e|exact ⟨e.1,E _ e.2⟩
theorem Zd6 {op:BinOp} {r:Bool} {k:EK1} {K:Value→Prop} (j: ∀b,k b=true→K b) (e:Jho op r k=true):Qev op r K:=by
 cases op<;>simp only [Jho,Xha] at e<;>simp only [Qev]<;>first|exact j _ e|cases e
theorem ZhY {E:EK} {op:BinOp} {x y:Value} {k:EK1} {K:Value→Prop} (j: ∀b,k b=true→K b) (e:Qic E op x y k=true):Jb E op x y K:=by
 unfold Qic at e;unfold Jb
 split at e
 ·split at e
  ·simp only [Bool.and_eq_true] at e
   refine ⟨?_,Jgx j e.2⟩
   have e:=e.1
   cases op<;>simp only [XhV,decide_eq_true_eq] at e<;>first|exact e|trivial
  ·cases e
 ·split at e
  ·exact Zd6 j e
  ·cases e
 ·split at e
  ·exact Zd6 j e
  ·exact Zd6 j e
  ·cases e
 ·split at e
  ·exact Zd6 j e
  ·cases e
 ·split at e
  ·split at e
   ·rename_i I;simp only [I];exact Zd6 j e
   ·cases e
  ·cases e
 ·split at e
  ·rename_i a b
   have:ZaZ a.data.toList b.data.toList=(a==b):=by
    rw [Bool.eq_iff_iff,MapKept.bytes_beq]
    constructor
    ·intro h
     have:=Jcz h
     cases a;cases b
     simp only at this
     congr 1
     exact Array.ext' this
    ·rintro rfl;exact Qdr _
   rw [this] at e
   exact Zd6 j e
  ·cases e
 ·cases e
theorem Zic {op:UnOp} {x:Value} {k:EK1} {K:Value→Prop} (j: ∀b,k b=true→K b) (e:eUn op x k=true):kUn op x K:=by
 unfold eUn at e;unfold kUn
 split at e
 ·rw [Xha] at e;exact j _ e
 ·rw [Qda] at e;exact j _ e
 ·cases e
theorem ZhJ {d:IntKind} {x:Value} {k:EK1} {K:Value→Prop} (j: ∀b,k b=true→K b) (e:JhC d x k=true):XaQ d x K:=by
 unfold JhC at e;unfold XaQ
 split at e
 ·rw [Qda] at e;exact j _ e
 ·cases e
theorem JhW {x:Value} {k:EK1} {K:Value→Prop} (j: ∀b,k b=true→K b) (e:Jic x k=true):Xf x K:=by
 unfold Jic at e;unfold Xf
 split at e<;>first|exact j _ e|cases e
theorem Qey {x:Value} {off:Nat} {k:EK1} {K:Value→Prop} (j: ∀b,k b=true→K b) (e:Zd0 x off k=true):JaS x off K:=
 JeK (λl o e=>by rw [Q0] at e;exact j _ e) e
theorem ZeM {x i:Value} {z:Nat} {k:EK1} {K:Value→Prop} (j: ∀b,k b=true→K b) (e:Xc3 x i z k=true):Jd x i z K:=by
 unfold Xc3 at e;unfold Jd
 split at e
 ·simp only [Bool.and_eq_true,decide_eq_true_eq,Q0] at e;exact ⟨e.1,e.2.1,j _ e.2.2⟩
 ·cases e
theorem Xfb {x i:Value} {len z:Nat} {k:EK1} {K:Value→Prop} (j: ∀b,k b=true→K b) (e:Zdz x i len z k=true):Ji x i len z K:=by
 unfold Zdz at e;unfold Ji
 split at e
 ·simp only [Bool.and_eq_true,decide_eq_true_eq,Q0] at e;exact ⟨e.1,e.2.1,j _ e.2.2⟩
 ·cases e
theorem XgM {cs:List Value} {off:Nat} {a:Option Nat} {k:EK1} {K:Value→Prop} (j: ∀b,k b=true→K b) (e:Xg9 cs off a k=true):Xbf cs off a K:=by
 cases a with
 | none=>exact JgH j e
 | some z=>simp only [Xg9,Bool.and_eq_true,decide_eq_true_eq,JdX] at e;exact ⟨e.1,j _ e.2⟩
theorem XhP {x i:Value} {len z:Nat} {a:Option Nat} {k:EK1} {K:Value→Prop} (j: ∀b,k b=true→K b) (e:Qim x i len z a k=true):JdY x i len z a K:=
 QeS (λ_=>Jd7 λ_ e=>by simp only [Bool.and_eq_true,decide_eq_true_eq] at e;exact ⟨e.1,e.2.1,XgM j e.2.2⟩) e
theorem ZfG {x:Value} {i:Nat} {k:EK1} {K:Value→Prop} (j: ∀b,k b=true→K b) (e:Xer x i k=true):Qc x i K:=by
 unfold Xer at e;unfold Qc;split at e<;>first|exact JgH j e|cases e
theorem Qh1 {x:Value} {k:EK1} {K:Value→Prop} (j: ∀b,k b=true→K b) (e:Qid x k=true):Jak x K:=by
 unfold Qid at e;unfold Jak;split at e<;>first|exact j _ e|cases e
theorem Xbk {x:Option Value} {d m:Nat} {k:Nat→Bool} {K:Nat→Prop} (j: ∀b,k b=true→K b) (e:QcT x d m k=true):ZW x d m K:=by
 cases x with
 | none=>exact j _ e
 | some v=>exact Jd7 (λ_ e=>by simp only [Bool.and_eq_true,decide_eq_true_eq,Q0] at e;exact ⟨e.1,e.2.1,j _ e.2.2⟩) e
theorem Qg8 {x:Value} {J I j:Option Value} {z:Nat} {k:EK1} {K:Value→Prop} (E: ∀b,k b=true→K b) (e:ZgF x J I j z k=true):Xx x J I j z K:=by
 unfold ZgF at e;unfold Xx
 split at e
 ·rename_i a len c
  by_cases hc:c<LC
  ·simp only [decide_eq_true hc,cond_true] at e
   simp only [if_pos hc]
   exact Xbk (λ_=>Xbk λ_=>Xbk λ_ e=>E _ (by rw [Qgm] at e;exact e)) e
  ·simp only [decide_eq_false hc,cond_false,Bool.and_eq_true,decide_eq_true_eq] at e
   simp only [if_neg hc]
   refine ⟨e.1,?_⟩
   have e:=e.2
   cases j with
   | none=>exact Xbk (λ_=>Xbk λ_ e=>E _ (by rw [Qgm] at e;exact e)) e
   | some j=>exact Xbk (λ_ e=>by
     simp only [Bool.and_eq_true,decide_eq_true_eq] at e
     exact ⟨e.1,Xbk (λ_=>Xbk λ_ e=>E _ (by rw [Qgm] at e;exact e)) e.2⟩) e
 ·cases e
theorem Qej {x:Value} {m z:Nat} {k:List Value→Bool} {K:List Value→Prop} (j: ∀b,k b=true→K b) (e:Jew h x m z k=true):Xar h.get x m z K:=by
 unfold Jew at e;unfold Xar
 split at e
 ·simp only [Bool.and_eq_true,decide_eq_true_eq] at e;exact ⟨e.1,j _ e.2⟩
 ·by_cases hc:m*z=0
  ·simp only [decide_eq_true hc,cond_true] at e;simp only [if_pos hc];exact j _ e
  ·simp only [decide_eq_false hc,cond_false] at e;simp only [if_neg hc];exact ZgA j e
 ·cases e
theorem Xgh {α:Type} {l:List α} (e:l.isEmpty=true):l=[]:=by simpa using e
theorem ZfS {s x:Value} {z:List Value} {bytes:Nat} {k:EC} {K:Cont} (j: ∀v h n,k v h n=true→K v h.get n) (e:Zeq s x z bytes h n k=true):Jbm s x z bytes h.get n K:=by
 unfold Zeq at e;unfold Jbm
 split at e
 ·simp only [Bool.and_eq_true,decide_eq_true_eq,Q0] at e
  exact ⟨e.1,e.2.1,e.2.2.1,e.2.2.2.1,Qdc (λl h n e=>j _ _ _ e) e.2.2.2.2⟩
 ·cases e
theorem QgD {s x:Value} {z bytes:Nat} {k:EC} {K:Cont} (j: ∀v h n,k v h n=true→K v h.get n) (e:Qe8 s x z bytes h n k=true):Zs s x z bytes h.get n K:=by
 unfold Qe8 at e;unfold Zs
 split at e
 ·rename_i base len c J m O
  simp only [Bool.and_eq_true,decide_eq_true_eq] at e
  obtain ⟨e1,e2,e3,e⟩:=e
  refine ⟨e1,e2,e3,Qej (λnew e=> ?_) e⟩
  simp only [Bool.and_eq_true] at e
  refine ⟨List.all_eq_true.1 e.1,?_⟩
  have e:=e.2
  by_cases hc:c<LC
  ·simp only [decide_eq_true hc,cond_true] at e
   simp only [if_pos hc]
   by_cases hc2:len+m≤c
   ·simp only [decide_eq_true hc2,cond_true] at e
    simp only [if_pos hc2]
    split at e
    ·simp only [Bool.and_eq_true,Q0] at e;exact ⟨Xgh e.1,j _ _ _ e.2⟩
    ·by_cases E:new=[]
     ·subst E;simp only [List.isEmpty_nil,cond_true,Q0] at e;simp only [if_true];exact j _ _ _ e
     ·have:new.isEmpty=false:=by simpa using E
      simp only [this,cond_false,Q0] at e
      simp only [if_neg E]
      exact JfC (λh e=>j _ _ _ e) e
    ·cases e
   ·simp only [decide_eq_false hc2,cond_false] at e
    simp only [if_neg hc2]
    exact Qej (λold e=>Qdc (λl h n e=>j _ _ _ (by rw [Q0] at e;exact e)) e) e
  ·simp only [decide_eq_false hc,cond_false] at e
   simp only [if_neg hc]
   split at e
   ·simp only [Bool.and_eq_true,decide_eq_true_eq] at e
    rename_i l o _ _
    refine ⟨e.1,JcQ (λcs bk e=> ?_) e.2⟩
    simp only [Bool.and_eq_true,decide_eq_true_eq] at e
    obtain ⟨e1,e2,e⟩:=e
    refine ⟨by cases bk<;>simp at e1 ⊢;exact e1,e2,?_⟩
    obtain ⟨t,I,e⟩:=Tr.setK_s _ _ _ _ _ e
    intro E
    have:=Qdc (K:=λl g n=>K (.slice (some ⟨l,0,none⟩) _ (LC+z)) g n) (λl h n e=>j _ _ _ (by rw [Q0] at e;exact e)) e
    rw [I] at this
    refine this ?_
    by_cases hl:n=l
    ·rw [hl,Xa]
    ·rw [Zd _ _ hl];exact E
   ·cases e
 ·cases e
theorem QhF {d s:Value} {z:Nat} {k:Value→Tr→Bool} {K:Value→G→Prop} (j: ∀v h,k v h=true→K v h.get) (e:QhA d s z h k=true):Jcg d s z h.get K:=by
 unfold QhA at e;unfold Jcg
 split at e
 ·refine Qej (λnew e=> ?_) e
  simp only [Bool.and_eq_true] at e
  refine ⟨List.all_eq_true.1 e.1,?_⟩
  have e:=e.2
  split at e
  ·rw [Q0] at e;exact j _ _ e
  ·by_cases hn:new=[]
   ·subst hn;simp only [List.isEmpty_nil,cond_true,Q0] at e;simp only [if_true];exact j _ _ e
   ·have:new.isEmpty=false:=by simpa using hn
    simp only [this,cond_false,Q0] at e
    simp only [if_neg hn]
    exact JfC (λh e=>j _ _ e) e
  ·cases e
 ·cases e
theorem Jg2 {x:Value} {zero:List Value} {k:Value→Tr→Bool} {K:Value→G→Prop} (j: ∀v h,k v h=true→K v h.get) (e:JgA x zero h k=true):Xaz x zero h.get K:=by
 unfold JgA at e;unfold Xaz
 split at e
 ·exact j _ _ e
 ·rename_i l o len c
  by_cases hn:len=0∨zero=[]
  ·have:(decide (len=0)||zero.isEmpty)=true:=by simpa using hn
   simp only [this,cond_true] at e
   simp only [if_pos hn];exact j _ _ e
  ·have:(decide (len=0)||zero.isEmpty)=false:=by
    rw [Bool.eq_false_iff];intro h;exact hn (by simpa using h)
   simp only [this,cond_false] at e
   simp only [if_neg hn];exact JfC (λh e=>j _ _ e) e
 ·cases e
theorem Qhp {len cap:Value} {zero:List Value} {bytes:Nat} {k:EC} {K:Cont} (j: ∀v h n,k v h n=true→K v h.get n) (e:Jh3 len cap zero bytes h n k=true):Zcr len cap zero bytes h.get n K:=
 Jd7 (λa=>Jd7 λc e=>by
  simp only [Bool.and_eq_true,decide_eq_true_eq] at e
  exact ⟨e.1,e.2.1,e.2.2.1,e.2.2.2.1,Qdc (λl h n e=>j _ _ _ (by simpa only [Q0] using e)) e.2.2.2.2⟩) e
theorem XdB: ∀{l:List (Nat×Option Nat×Value)} {cs:List Value} {k:List Value→Bool} {K:List Value→Prop},(∀l,k l=true→K l)→Zff cs l k=true→Qf cs l K
 | [],cs,k,K,j,e=>j _ e
 |(off,none,v)::r,cs,k,K,j,e=>by
  simp only [Zff,Bool.and_eq_true,decide_eq_true_eq] at e
  exact ⟨e.1,e.2.1,XdB j e.2.2⟩
 |(off,some z,v)::r,cs,k,K,j,e=>QeS (λ_ e=>by
  simp only [Bool.and_eq_true,decide_eq_true_eq] at e
  exact ⟨e.1,e.2.1,XdB j e.2.2⟩) e
theorem XdZ {l:Nat} {k:EM→Bool} {K:EM→Prop} (j: ∀b,k b=true→K b) (e:Jhj h l k=true):JeE h.get l K:=by
 unfold Jhj at e;unfold JeE;split at e
 ·rename_i es E;rw [E];exact j _ e
 ·cases e
theorem Jgh {kk:IntKind} {v:Value} {k:Int→Bool} {K:Int→Prop} (j: ∀b,k b=true→K b) (e:Zh5 kk v k=true):JgP kk v K:=by
 unfold Zh5 at e;unfold JgP;split at e
 ·simp only [Bool.and_eq_true,decide_eq_true_eq] at e;exact ⟨e.1,j _ e.2⟩
 ·cases e
theorem QeX {kk:IntKind} {a:Int} {es:EM} {k:Option Nat→Bool} {K:Option Nat→Prop} (E: ∀b,k b=true→K b) (e:XgK kk a es k=true):JcW kk a es K:=by
 unfold XgK at e;unfold JcW;split at e
 ·rename_i r j;rw [j];exact E _ e
 ·cases e
theorem Xg7 {es:EM} {i:Nat} {k:Value×Value→Bool} {K:Value×Value→Prop} (E: ∀b,k b=true→K b) (e:eAt es i k=true):kAt es i K:=by
 unfold eAt at e;unfold kAt;split at e
 ·rename_i r j;rw [j];exact E _ e
 ·cases e
theorem Qfd {b:Blk} {k:Nat→Tr→Nat→Bool} {K:Nat→G→Nat→Prop} (j: ∀l h n,k l h n=true→K l h.get n) (e:Qgx b h n k=true):ZeV b h.get n K:=by
 intro _
 simp only [Qgx,Q0] at e
 obtain ⟨t,E,e⟩:=Tr.setK_s _ _ _ _ _ e
 rw [←E];exact j _ _ _ e
theorem Jdt {l:Nat} {es:EM} {k:Tr→Bool} {K:G→Prop} (j: ∀h,k h=true→K h.get) (e:Je3 h l es k=true):K (upd h.get l (some (.map es))):=by
 simp only [Je3,XhY] at e
 obtain ⟨t,E,e⟩:=Tr.setK_s _ _ _ _ _ e
 rw [←E];exact j _ e
theorem Zgy {kk:IntKind} {x i z:Value} {ok:Bool} {k:EK1} {K:Value→Prop} (j: ∀b,k b=true→K b) (e:Xgo kk x i z ok h k=true):Qce kk x i z ok h.get K:=by
 refine Jgh (λa e=> ?_) e
 split at e
 ·exact j _ e
 ·refine XdZ (λes=>QeX λr e=> ?_) e
  cases r with
  | some i=>exact Xg7 (λ_=>j _) e
  | none=>exact j _ e
 ·cases e
theorem XeO {kk:IntKind} {x i z:Value} {k:Tr→Bool} {K:G→Prop} (j: ∀h,k h=true→K h.get) (e:Qgb kk x i z h k=true):ZaV kk x i z h.get K:=by
 refine Jgh (λa e=> ?_) e
 split at e
 ·refine XdZ (λes=>QeX λr e=> ?_) e
  cases r with
  | some i=>exact Jdt j e
  | none=>exact Jdt j e
 ·cases e
theorem Jfi {kk:IntKind} {x i z:Value} {k:Value→Tr→Bool} {K:Value→G→Prop} (j: ∀v h,k v h=true→K v h.get) (e:Qez kk x i z h k=true):Xb8 kk x i z h.get K:=by
 refine Jgh (λa e=> ?_) e
 split at e
 ·refine XdZ (λes=>QeX λr e=> ?_) e
  cases r with
  | some i=>exact Xg7 (λE=>Jdt (K:=λg=>K _ g) (j _)) e
  | none=>exact Jdt (K:=λg=>K _ g) (j _) e
 ·cases e
theorem Xeq {x i z:Value} {k:Tr→Bool} {K:G→Prop} (j: ∀h,k h=true→K h.get) (e:Zdu x i z h k=true):Zbc x i z h.get K:=by
 refine Jd7 (λa e=> ?_) e
 split at e
 ·refine XdZ (λes e=> ?_) e
  simp only [Bool.and_eq_true,decide_eq_true_eq] at e
  exact ⟨e.1,Xg7 (λ_=>Jdt j) e.2⟩
 ·cases e
theorem Xg8 {x:Value} {k:Nat→Tr→Nat→Bool} {K:Nat→G→Nat→Prop} (j: ∀l h n,k l h n=true→K l h.get n) (e:Xgw x h n k=true):Xdd x h.get n K:=by
 unfold Xgw at e;unfold Xdd
 split at e
 ·exact XdZ (λes e=>by rw [Q0] at e;exact Qfd j e) e
 ·cases e
theorem ZgC {x:Value} {k:Nat→Nat→EM→List Nat→Bool} {K:Nat→Nat→EM→List Nat→Prop} (j: ∀p l e s,k p l e s=true→K p l e s) (e:JgZ x h k=true):Xee x h.get K:=by
 unfold JgZ at e;unfold Xee
 split at e
 ·split at e
  ·rename_i E
   simp only [E]
   exact XdZ (λes e=>by simp only [Bool.and_eq_true,decide_eq_true_eq] at e;exact ⟨e.1,j _ _ _ _ e.2⟩) e
  ·cases e
 ·cases e
theorem Zgz {F:Nat→Value×Value→Bool} {seen:List Nat}: ∀(es:EM) (i:Nat),Zhf F seen i es=true→ ∀(j:Nat) (I:Value×Value),es[j]? =some I→i+j∉seen→F (i+j) I=true
 | [],_,_,j,I,E,_=>by simp at E
 | e::es,i,h,j,I,E,O=>by
  simp only [Zhf,Bool.and_eq_true] at h
  cases j with
  | zero=>
   simp at E;subst E
   have J:=h.1
   have:seen.contains i=false:=by simpa using O
   rw [this] at J
   exact J
  | succ j=>
   have:=Zgz es (i+1) h.2 j I (by simpa using E) (by rw [show i+1+j=i+(j+1) by omega];exact O)
   rw [show i+1+j=i+(j+1) by omega] at this
   exact this
theorem Qhw {x:Value} {k:Value→Tr→Bool} {K:Value→G→Prop} (I: ∀v h,k v h=true→K v h.get) (e:JhZ x h k=true):Zgv x h.get K:=by
 refine ZgC (λp l es seen e=> ?_) e
 simp only [Bool.and_eq_true] at e
 refine ⟨λj=> ?_,λi Q O E=> ?_⟩
 ·have J:=e.1
  have:(List.range es.length).all seen.contains=true:=by
   rw [List.all_eq_true];intro i E
   have:=j i (List.mem_range.1 E)
   simpa using this
  rw [this] at J
  exact I _ _ J
 ·have:=Zgz es 0 e.2 i Q E (by simpa using O)
  simp only [Nat.zero_add,Q0] at this
  obtain ⟨t,U,e⟩:=Tr.setK_s _ _ _ _ _ this
  rw [←U];exact I _ _ e
theorem Xhc {x:Value} {k:EK1} {K:Value→Prop} (j: ∀b,k b=true→K b) (e:Zhl x h k=true):ZeR x h.get K:=by
 refine ZgC (λp l es seen e=> ?_) e
 revert e;generalize seen.getLast? =u;intro e
 cases u with
 | none=>cases e
 | some i=>exact Xg7 (λ_=>j _) e
theorem Zh2 {x:Value} {k:EK1} {K:Value→Prop} (j: ∀b,k b=true→K b) (e:Xib x k=true):Xho x K:=by
 unfold Xib at e;unfold Xho;split at e
 ·rename_i c
  by_cases hc:c<LC
  ·rw [decide_eq_true hc] at e;simp only [if_pos hc];exact j _ e
  ·rw [decide_eq_false hc] at e;cases e
 ·cases e
theorem Zhr {x:Value} {k:EK1} {K:Value→Prop} (j: ∀b,k b=true→K b) (e:QhK x k=true):QdO x K:=by
 unfold QhK at e;unfold QdO;split at e
 ·rw [Q0] at e;exact j _ e
 ·cases e
theorem QhC {x i:Value} {k:EK1} {K:Value→Prop} (j: ∀b,k b=true→K b) (e:Jhq x i k=true):QdS x i K:=by
 unfold Jhq at e;unfold QdS
 split at e
 ·simp only [Bool.and_eq_true,decide_eq_true_eq] at e
  refine ⟨e.1,?_⟩
  have e:=e.2
  split at e
  ·rename_i hb;simp only [hb];rw [Q0] at e;exact j _ e
  ·cases e
 ·cases e
end
end
section
variable {P:Program}
def Qdu (P:Program) (t:TypeId) (K:Nat→Bool):Bool:=match P.info? t with|some i=>K i.size|none=>false
def ZcX (P:Program) (t:TypeId) (K:Option Nat→Bool):Bool:=
 match P.underlying t with
 | some (.struct _)|some (.array _ _)=>Qdu P t λk=>K (some k)
 | some _=>Qdu P t λk=>match k==1 with|true=>K none|false=>false
 | none=>false
def QbJ (P:Program) (t:TypeId) (K:List Value→Nat→Bool):Bool:=
 match P.info? t with
 | some i=>match i.zero with
  | some z=>match plain 3 z&&z.cells.toList.all isCell&&(z.cells.size==i.size) with
   | true=>K z.cells.toList i.bytes
   | false=>false
  | none=>false
 | none=>false
def Xcm (P:Program) (t:Env) (place:Nat→Option (Nat×TypeId)):List (Nat×Operand)→(List (Nat×Option Nat×Value)→Bool)→Bool
 | [],K=>K []
 |(i,x)::r,K=>match place i with
  | some (off,ty)=>ZcX P ty λa=>fV (ev t x) λv=>Xcm P t place r λl=>K ((off,a,v)::l)
  | none=>false
def Jik (P:Program) (ty:TypeId) (v:Value) (h:Tr) (n:Nat) (K:Nat→Tr→Nat→Bool):Bool:=
 ZcX P ty λa=>match a with
 | some _=>QhN v λcs=>eNew cs .exact h n K
 | none=>isCell v&&eNew [v] .exact h n K
abbrev ECT:=FuncId→List Value→Tr→Nat→EC→Bool
def Qhr (C:ECT) (f:Value) (args:List Value) (h:Tr) (n:Nat) (K:EC):Bool:=
 match f with
 | .func (.func f) a b=>fL (a.toList++args++b.toList) λas=>C f as h n K
 | _=>false
def Xf6 (t:Env):List Operand→(List Value→Bool)→Bool
 | [],k=>k []
 | x::l,k=>fV (ev t x) λv=>Xf6 t l λvs=>k (v::vs)
theorem Xem (t:Env): ∀(l:List Operand) (k:List Value→Bool),Xf6 t l k=k (l.map (ev t))
 | [],_=>rfl
 | x::l,k=>by simp only [Xf6,JdS];rw [Xem t l];rfl
def Xfo (P:Program) (t:TypeId) (K:EK1):Bool:=
 match P.info? t with
 | some i=>match i.zero with
  | some z=>match plain 3 z with
   | true=>K z
   | false=>false
  | none=>false
 | none=>false
def Xex (P:Program) (t:TypeId) (K:IntKind→TypeId→Bool):Bool:=
 match P.underlying t with
 | some (.map kt e)=>match P.underlying kt with
  | some (.int kk)=>K kk e
  | _=>false
 | _=>false
def Zin (x y:Value) (K:EK1):Bool:=match x,y with| .int k a,.int k' b=>decide (k=k')&&Zev (if b<a then b else a) λi=>K (.int k i)|_,_=>false
def XhM (P:Program) (b:Builtin) (vs:List Value) (tys:List TypeId) (K:EK1):Bool:=
 match b with
 | .cap=>match vs,tys with
  | x::_,ty::_=>match P.underlying ty with
   | some (.slice _)=>Xib x K
   | _=>false
  | _,_=>false
 | .min=>match vs,tys with
  | [x,y],[ty,_]=>match P.underlying ty with
   | some (.int _)=>Zin x y K
   | _=>false
  | _,_=>false
 | _=>false
def eop (P:Program) (C:ECT) (o:Oper) (t:Env) (h:Tr) (n:Nat) (K:EC):Bool:=
 match o.op.operands.toList.all Qd2 with
 | false=>false
 | true=>
  match o.op with
  | .move x| .assign x=>fV (ev t x) λv=>K v h n
  | .pick c x y=>QhL (ev t c) λb=>fV (bif b then ev t x else ev t y) λv=>K v h n
  | .alloc e=>QbJ P e λz _=>eNew z .exact h n λl h n=>K (ptr l 0) h n
  | .box e x=>Jik P e (ev t x) h n λl h n=>K (ptr l 0) h n
  | .build ty parts=>QbJ P ty λz _=>match P.underlying ty with
   | some (.struct fs)=>match fs.toList.all (λf=>(P.info? f.type).isSome) with|false=>false|true=>Xcm P t (λi=>(fs[i]?).map λf=>(f.offset,f.type)) parts.toList λl=>Zff z l λcs=>fL cs λcs=>K (.agg cs.toArray) h n
   | some (.array _ e)=>Qdu P e λk=>Xcm P t (λi=>some (i*k,e)) parts.toList λl=>Zff z l λcs=>fL cs λcs=>K (.agg cs.toArray) h n
   | _=>false
  | .buildSlice ty len parts=>match P.underlying ty with
   | some (.slice e)=>QbJ P e λz _=>match decide (len*z.length≤1000000)&&decide (len≤1000000) with
    | true=>Xcm P t (λi=>some (i*z.length,e)) parts.toList λl=>Zff (reps len z) l λcs=>eNew cs .exact h n λl h n=>K (.slice (some ⟨l,0,none⟩) len len) h n
    | false=>false
   | _=>false
  | .load ty a=>Xhp (ev t a) λl o=>ZcX P ty λa=>match a with
   | some k=>Xh8 h l o k λcs=>K (.agg cs.toArray) h n
   | none=>eLd h l o λv=>K v h n
  | .store ty a x=>Xhp (ev t a) λl o=>ZcX P ty λa=>match a with
   | some k=>QhN (ev t x) λcs=>decide (cs.length=k)&&Xh1 h l o cs λh=>K undef h n
   | none=>fV (ev t x) λv=>eSt h l o v λh=>K undef h n
  | .nilCheck x=>Jic (ev t x) λv=>K v h n
  | .binOp op xt x y _=>Qic (Jf9 P xt) op (ev t x) (ev t y) λv=>K v h n
  | .unOp op _ x=>eUn op (ev t x) λv=>K v h n
  | .convert src dst x=>match P.underlying src,P.underlying dst with
   | some _,some (.int k)=>JhC k (ev t x) λv=>K v h n
   | _,_=>false
  | .makeFunc fn first captured=>Xf6 t first.toList λa=>Xf6 t captured.toList λb=>K (.func fn a.toArray b.toArray) h n
  | .makeSlice ty l c=>match P.underlying ty with
   | some (.slice e)=>QbJ P e λz bytes=>Jh3 (ev t l) (ev t c) z bytes h n K
   | _=>false
  | .slice ty x lo hi mx=>match P.underlying ty,hi.isNone&&mx.isSome with
   | some (.slice e),false=>Qdu P e λz=>ZgF (ev t x) (lo.map (ev t)) (hi.map (ev t)) (mx.map (ev t)) z λv=>K v h n
   | _,_=>false
  | .fieldAddr s x f=>match P.underlying s with
   | some (.struct fs)=>match fs[f]? with
    | some fd=>Qdu P fd.type λk=>match k==0 with
     | true=>false
     | false=>Zd0 (ev t x) fd.offset λv=>K v h n
    | none=>false
   | _=>false
  | .field xt x f=>match P.underlying xt with
   | some (.struct fs)=>match fs[f]? with
    | some fd=>ZcX P fd.type λa=>QhN (ev t x) λcs=>Xg9 cs fd.offset a λv=>K v h n
    | none=>false
   | _=>false
  | .indexAddr ty x i=>match P.underlying ty with
   | some (.slice e)=>Qdu P e λz=>Xc3 (ev t x) (ev t i) z λv=>K v h n
   | some (.array len e)=>Qdu P e λz=>Zdz (ev t x) (ev t i) len z λv=>K v h n
   | _=>false
  | .index xt x i=>match P.underlying xt with
   | some (.array len e)=>Qdu P e λz=>ZcX P e λa=>Qim (ev t x) (ev t i) len z a λv=>K v h n
   | some .string=>Jhq (ev t x) (ev t i) λv=>K v h n
   | _=>false
  | .extract x i=>Xer (ev t x) i λv=>K v h n
  | .call c=>match c.callee with
   | .value f=>Xf6 t c.args.toList λas=>Qhr C (ev t f) as h n K
   | .invoke _ _=>false
   | .builtin b=>match b,c.args.toList,c.argTypes.toList with
    | .len,x::_,ty::_=>match P.underlying ty with
     | some (.slice _)=>Qid (ev t x) λv=>K v h n
     | some (.array len _)=>K (.int .i64 len) h n
     | some .string=>QhK (ev t x) λv=>K v h n
     | _=>false
    | .append,s::x::_,ty::tx::_=>match P.underlying ty,P.underlying tx with
     | some (.slice e),some (.slice _)=>QbJ P e λz bytes=>Qe8 (ev t s) (ev t x) z.length bytes h n K
     | some (.slice e),some (.int _)=>QbJ P e λz bytes=>Zeq (ev t s) (ev t x) z bytes h n K
     | _,_=>false
    | .copy,d::s::_,ty::_=>match P.underlying ty with
     | some (.slice e)=>Qdu P e λz=>QhA (ev t d) (ev t s) z h λv h=>K v h n
     | _=>false
    | .clear,x::_,ty::_=>match P.underlying ty with
     | some (.slice e)=>QbJ P e λz _=>JgA (ev t x) z h λv h=>K v h n
     | _=>false
    | b',xs,ts=>XhM P b' (xs.map (ev t)) ts λv=>K v h n
  | .makeMap ty r=>match r with
   | none=>Qgx (.map []) h n λl h n=>K (.map (some l)) h n
   | some x=>match P.underlying ty with
    | some (.map _ _)=>Xhi (ev t x) λ_=>Qgx (.map []) h n λl h n=>K (.map (some l)) h n
    | _=>false
  | .lookup xt x i ok=>Xex P xt λkk e=>Xfo P e λz=>Xgo kk (ev t x) (ev t i) z ok h λv=>K v h n
  | .mapUpdate ty m k x| .insert ty m k x=>Xex P ty λkk _=>fV (ev t x) λx=>Qgb kk (ev t m) (ev t k) x h λh=>K undef h n
  | .mapEntry ty m k=>Xex P ty λkk e=>Xfo P e λz=>Qez kk (ev t m) (ev t k) z h λv h=>K v h n
  | .entryStore _ m s x=>fV (ev t x) λx=>Zdu (ev t m) (ev t s) x h λh=>K undef h n
  | .range xt x=>match P.underlying xt with
   | some (.map _ _)=>Xgw (ev t x) h n λl h n=>K (ptr l 0) h n
   | _=>false
  | .next it false=>JhZ (ev t it) h λv h=>K v h n
  | .entry it=>Zhl (ev t it) h λv=>K v h n
  | _=>false
section
variable {h:Tr} {n:Nat}
theorem Xbs {t:TypeId} {k:Nat→Bool} {K:Nat→Prop} (j: ∀b,k b=true→K b) (e:Qdu P t k=true):QcL P t K:=by
 unfold Qdu at e;unfold QcL
 revert e;generalize P.info? t=u;intro e
 split at e
 ·exact j _ e
 ·cases e
theorem ZbO {t:TypeId} {k:Option Nat→Bool} {K:Option Nat→Prop} (j: ∀b,k b=true→K b) (e:ZcX P t k=true):QaJ P t K:=by
 unfold ZcX at e;unfold QaJ
 revert e;generalize P.underlying t=u;intro e
 split at e
 ·exact Xbs (λ_=>j _) e
 ·exact Xbs (λ_=>j _) e
 ·rename_i d E I
  cases d<;>first|exact absurd rfl (E _)|exact absurd rfl (I _ _)|(refine Xbs (λk e=> ?_) e;revert e;generalize (k==1)=b;intro e;cases b;cases e;exact j _ e)
 ·cases e
theorem Jbg {t:TypeId} {k:List Value→Nat→Bool} {K:List Value→Nat→Prop} (j: ∀z b,k z b=true→K z b) (e:QbJ P t k=true):zeroOf P t K:=by
 unfold QbJ at e;unfold zeroOf
 revert e;generalize P.info? t=u;intro e
 cases u with
 | none=>cases e
 | some i=>
  simp only at e ⊢
  revert e;generalize i.zero=u;intro e
  cases u with
  | none=>cases e
  | some z=>
   simp only at e ⊢
   revert e;generalize (plain 3 z&&z.cells.toList.all isCell&&(z.cells.size==i.size))=b;intro e
   cases b
   ·cases e
   ·exact j _ _ e
theorem Jcj {t:Env} {pl:Nat→Option (Nat×TypeId)}: ∀{parts:List (Nat×Operand)} {k:List (Nat×Option Nat×Value)→Bool} {K:List (Nat×Option Nat×Value)→Prop},(∀l,k l=true→K l)→Xcm P t pl parts k=true→partsOf P t pl parts K
 | [],k,K,j,e=>j _ e
 |(i,x)::r,k,K,j,e=>by
  simp only [Xcm,JdS] at e
  simp only [partsOf]
  revert e;generalize pl i=u;intro e
  split at e
  ·exact ZbO (λa=>Jcj (λl=>j _)) e
  ·cases e
theorem JhY {ty:TypeId} {v:Value} {k:Nat→Tr→Nat→Bool} {K:Nat→G→Nat→Prop} (j: ∀l h n,k l h n=true→K l h.get n) (e:Jik P ty v h n k=true):XhT P ty v h.get n K:=by
 refine ZbO (λa e=> ?_) e
 cases a with
 | none=>simp only [Bool.and_eq_true] at e;exact ⟨e.1,Qdc j e.2⟩
 | some z=>exact QeS (λ_=>Qdc j) e
theorem JfD {t:TypeId} {k:EK1} {K:Value→Prop} (j: ∀z,k z=true→K z) (e:Xfo P t k=true):Jeg P t K:=by
 unfold Xfo at e;unfold Jeg
 revert e;generalize P.info? t=u;intro e
 cases u with
 | none=>cases e
 | some i=>
  simp only at e ⊢
  revert e;generalize i.zero=u;intro e
  cases u with
  | none=>cases e
  | some z=>
   simp only at e ⊢
   revert e;generalize plain 3 z=b;intro e
   cases b
   ·cases e
   ·exact j _ e
theorem Zdn {t:TypeId} {k:IntKind→TypeId→Bool} {K:IntKind→TypeId→Prop} (E: ∀a b,k a b=true→K a b) (e:Xex P t k=true):mapOf P t K:=by
 unfold Xex at e;unfold mapOf
 split at e
 ·rename_i I
  simp only [I]
  split at e
  ·rename_i j;simp only [j];exact E _ _ e
  ·cases e
 ·cases e
theorem Jhx {b:Builtin} {vs:List Value} {j:List TypeId} {k:EK1} {K:Value→Prop} (E: ∀z,k z=true→K z) (e:XhM P b vs j k=true):ZeH P b vs j K:=by
 unfold XhM at e;unfold ZeH
 split at e
 ·split at e
  ·revert e;rename_i ty _;try simp only
   generalize P.underlying ty=u;intro e
   split at e
   ·exact Zh2 E e
   ·cases e
  ·cases e
 ·split at e
  ·revert e;try simp only
   rename_i ty _
   generalize P.underlying ty=u;intro e
   split at e
   ·unfold Zin at e;unfold Xh0
    split at e
    ·simp only [Bool.and_eq_true,decide_eq_true_eq,Qda] at e;exact ⟨e.1,E _ e.2⟩
    ·cases e
   ·cases e
  ·cases e
 ·cases e
def CTR (D:ECT) (C:CT):Prop:= ∀f args h n (k:EC) (K:Cont),(∀v h n,k v h n=true→K v h.get n)→D f args h n k=true→C f args h.get n K
theorem Zhq {D:ECT} {C:CT} (E:CTR D C) {f:Value} {args:List Value} {k:EC} {K:Cont} (j: ∀v h n,k v h n=true→K v h.get n) (e:Qhr D f args h n k=true):Qbu C f args h.get n K:=by
 unfold Qhr at e;unfold Qbu
 split at e
 ·rw [JdX] at e;exact E _ _ _ _ _ _ j e
 ·cases e
theorem QhT {D:ECT} {C:CT} (Z:CTR D C) {o:Oper} {t:Env} {k:EC} {K:Cont} (j: ∀v h n,k v h n=true→K v h.get n) (e:eop P D o t h n k=true):aop P C o t h.get n K:=by
 unfold eop at e;unfold aop
 revert e
 generalize o.op.operands.toList.all Qd2=b
 generalize o.op=op
 intro e
 cases b
 ·cases e
 simp only at e ⊢
 cases op with
 | move x=>simp only [JdS] at e;exact j _ _ _ e
 | assign x=>simp only [JdS] at e;exact j _ _ _ e
 | pick c x y=>exact QhD (λb e=>by rw [JdS] at e;exact j _ _ _ e) e
 | alloc ty=>exact Jbg (λz b e=>Qdc (λl h n e=>j _ _ _ e) e) e
 | box ty x=>exact JhY (λl h n e=>j _ _ _ e) e
 | build ty parts=>
  refine Jbg (λz b e=> ?_) e
  revert e;generalize P.underlying ty=u;intro e
  split at e
  ·rename_i I
   revert e;generalize hb:I.toList.all (λf=>(P.info? f.type).isSome)=b;intro e
   cases b
   ·cases e
   ·simp only [hb]
    exact Jcj (λl e=>XdB (λcs e=>by rw [JdX] at e;exact j _ _ _ e) e) e
  ·exact Xbs (λ_ e=>Jcj (λl e=>XdB (λcs e=>by rw [JdX] at e;exact j _ _ _ e) e) e) e
  ·cases e
 | buildSlice ty len parts=>
  simp only at e ⊢
  revert e;generalize P.underlying ty=u;intro e
  split at e
  ·refine Jbg (λz b e=> ?_) e
   revert e;generalize (decide (len*z.length≤1000000)&&decide (len≤1000000))=b;intro e
   cases b
   ·cases e
   ·exact Jcj (λl e=>XdB (λcs e=>Qdc (λl h n e=>j _ _ _ e) e) e) e
  ·cases e
 | load ty a=>
  refine JeK (λl o e=>ZbO (λa e=> ?_) e) e
  cases a with
  | none=>exact Qff (λv e=>j _ _ _ e) e
  | some z=>exact ZgA (λv e=>j _ _ _ e) e
 | store ty a x=>
  refine JeK (λl o e=>ZbO (λa e=> ?_) e) e
  cases a with
  | none=>simp only [JdS] at e;exact XfG (λh e=>j _ _ _ e) e
  | some z=>exact QeS (λcs e=>by simp only [Bool.and_eq_true,decide_eq_true_eq] at e;exact ⟨e.1,JfC (λh e=>j _ _ _ e) e.2⟩) e
 | nilCheck x=>exact JhW (λv e=>j _ _ _ e) e
 | binOp op E x y s=>exact ZhY (λv e=>j _ _ _ e) e
 | unOp op ty x=>exact Zic (λv e=>j _ _ _ e) e
 | convert src dst x=>
  simp only at e ⊢
  revert e;generalize P.underlying src=u;generalize P.underlying dst=v;intro e
  split at e
  ·exact ZhJ (λv e=>j _ _ _ e) e
  ·cases e
 | makeFunc fn first captured=>
  simp only [Xem] at e
  have e2: ∀a:Array Operand,(a.toList.map (ev t)).toArray=a.map (ev t):=by intro a;cases a;simp
  rw [e2,e2] at e
  exact j _ _ _ e
 | makeSlice ty l c=>
  simp only at e ⊢
  revert e;generalize P.underlying ty=u;intro e
  split at e
  ·exact Jbg (λz b e=>Qhp j e) e
  ·cases e
 | slice ty x lo V O=>
  simp only at e ⊢
  revert e;generalize P.underlying ty=u;generalize (V.isNone&&O.isSome)=b;intro e
  split at e
  ·exact Xbs (λz e=>Qg8 (λv e=>j _ _ _ e) e) e
  ·cases e
 | fieldAddr s x f=>
  simp only at e ⊢
  revert e;generalize P.underlying s=u;intro e
  split at e
  ·rename_i I
   revert e;try simp only
   generalize I[f]? =w;intro e
   split at e
   ·refine Xbs (λz e=> ?_) e
    revert e;generalize (z==0)=b;intro e
    cases b
    ·exact Qey (λv e=>j _ _ _ e) e
    ·cases e
   ·cases e
  ·cases e
 | field E x f=>
  simp only at e ⊢
  revert e;generalize P.underlying E=u;intro e
  split at e
  ·rename_i I
   revert e;try simp only
   generalize I[f]? =w;intro e
   split at e
   ·exact ZbO (λa e=>QeS (λcs e=>XgM (λv e=>j _ _ _ e) e) e) e
   ·cases e
  ·cases e
 | indexAddr ty x i=>
  simp only at e ⊢
  revert e;generalize P.underlying ty=u;intro e
  split at e
  ·exact Xbs (λz e=>ZeM (λv e=>j _ _ _ e) e) e
  ·exact Xbs (λz e=>Xfb (λv e=>j _ _ _ e) e) e
  ·cases e
 | index E x i=>
  simp only at e ⊢
  revert e;generalize P.underlying E=u;intro e
  split at e
  ·exact Xbs (λz e=>ZbO (λa e=>XhP (λv e=>j _ _ _ e) e) e) e
  ·exact QhC (λv e=>j _ _ _ e) e
  ·cases e
 | extract x i=>exact ZfG (λv e=>j _ _ _ e) e
 | call c=>
  simp only at e ⊢
  revert e;generalize c.callee=Y;intro e
  cases Y with
  | value f=>simp only [Xem] at e;exact Zhq Z j e
  | invoke _ _=>cases e
  | builtin b=>
   simp only at e ⊢
   revert e;generalize c.args.toList=as;generalize c.argTypes.toList=ts;intro e
   split at e
   ·revert e;rename_i ty _;simp only;generalize P.underlying ty=u;intro e
    split at e
    ·exact Qh1 (λv e=>j _ _ _ e) e
    ·exact j _ _ _ e
    ·exact Zhr (λv e=>j _ _ _ e) e
    ·cases e
   ·rename_i ty U _
    revert e;try simp only
    generalize P.underlying ty=u;generalize P.underlying U=w;intro e
    split at e
    ·exact Jbg (λz b e=>QgD j e) e
    ·exact Jbg (λz b e=>ZfS j e) e
    ·cases e
   ·rename_i ty _
    revert e;try simp only
    generalize P.underlying ty=u;intro e
    split at e
    ·exact Xbs (λz e=>QhF (λv h e=>j _ _ _ e) e) e
    ·cases e
   ·rename_i ty _
    revert e;try simp only
    generalize P.underlying ty=u;intro e
    split at e
    ·exact Jbg (λz b e=>Jg2 (λv h e=>j _ _ _ e) e) e
    ·cases e
   ·rename_i n1 n2 n3 J
    split
    ·exact (n1 _ _ _ _ rfl rfl rfl).elim
    ·exact (n2 _ _ _ _ _ _ rfl rfl rfl).elim
    ·exact (n3 _ _ _ _ _ rfl rfl rfl).elim
    ·exact (J _ _ _ _ rfl rfl rfl).elim
    ·exact Jhx (λv e=>j _ _ _ e) e
 | makeMap ty r=>
  cases r with
  | none=>exact Qfd (λl h n e=>j _ _ _ e) e
  | some x=>
   simp only at e ⊢
   revert e;generalize P.underlying ty=u;intro e
   split at e
   ·exact Jd7 (λ_ e=>Qfd (λl h n e=>j _ _ _ e) e) e
   ·cases e
 | lookup E x i ok=>exact Zdn (λ_ _ e=>JfD (λz e=>Zgy (λv e=>j _ _ _ e) e) e) e
 | mapUpdate ty m k x=>exact Zdn (λ_ _ e=>by rw [JdS] at e;exact XeO (λh e=>j _ _ _ e) e) e
 | insert ty m k x=>exact Zdn (λ_ _ e=>by rw [JdS] at e;exact XeO (λh e=>j _ _ _ e) e) e
 | mapEntry ty m k=>exact Zdn (λ_ _ e=>JfD (λz e=>Jfi (λv h e=>j _ _ _ e) e) e) e
 | entryStore ty m s x=>simp only [JdS] at e;exact Xeq (λh e=>j _ _ _ e) e
 | range E x=>
  simp only at e ⊢
  revert e;generalize P.underlying E=u;intro e
  split at e
  ·exact Xg8 (λl h n e=>j _ _ _ e) e
  ·cases e
 | next Q b=>
  cases b with
  | true=>cases e
  | false=>exact Qhw (λv h e=>j _ _ _ e) e
 | entry Q=>exact Xhc (λv e=>j _ _ _ e) e
 | _=>cases e
end
end
section
variable {P:Program}
abbrev EE:=List Value→Tr→Nat→Bool
abbrev EQ:=Exit→List Value→Tr→Nat→Bool
def QfC (v:Value) (a b:Bool):Bool:=match v with| .bool true=>a| .bool false=>b|_=>false
def Zgl (gd:Bool) (t:List Value) (dst:Option Tmp) (v:Value) (K:List Value→Bool):Bool:=
 match gd with
 | true=>QfC v (JhK t dst (.bool true) K) (JhK t dst (.bool false) K)
 | false=>JhK t dst v K
def XdH (ops:Array Oper) (o:Oper) (t:Env) (a b:Bool):Bool:=
 match o.guard with
 | none=>a
 | some (j,want)=>match (ops[j]?).bind (·.dst) with
  | some d=>match t d with
   | .bool c=>bif c==want then a else b
   | .tuple _=>b
   | _=>false
  | none=>false
def JhS (P:Program) (C:ECT) (N:Nat) (ops:Array Oper) (K:EE):List Oper→Nat→List Value→Tr→Nat→Bool
 | [],_,t,h,n=>K t h n
 | o::rest,i,t,h,n=>
  match Jdr N o.dst with
  | false=>false
  | true=>
   XdH ops o (XdX t)
    (eop P C o (XdX t) h n λv h n=>Zgl (guarded rest i) t o.dst v λt=>JhS P C N ops K rest (i+1) t h n)
    (JhK t o.dst undef λt=>JhS P C N ops K rest (i+1) t h n)
def QgS:Addr→Addr→Bool
 |⟨l,o,none⟩,⟨l',o',none⟩=>Nat.beq l l'&&Nat.beq o o'
 | _,_=>false
def XeH:Value→Value→Bool
 | .string a,.string b=>ZaZ a.data.toList b.data.toList
 | .int k i,.int k' i'=>decide (k=k')&&decide (i=i')
 | .bool b,.bool b'=>b==b'
 | .pointer none,.pointer none=>true
 | .pointer (some a),.pointer (some a')=>QgS a a'
 | .slice none n c,.slice none n' c'=>Nat.beq n n'&&Nat.beq c c'
 | .slice (some a) n c,.slice (some a') n' c'=>QgS a a'&&(Nat.beq n n'&&Nat.beq c c')
 | _,_=>false
def XeY:List Value→List Value→Bool
 | [],[]=>true
 | x::xs,y::ys=>XeH x y&&XeY xs ys
 | _,_=>false
def QhB:BK→BK→Bool
 | .ro,.ro=>true
 | .exact,.exact=>true
 | .loose z,.loose z'=>Nat.beq z z'
 | _,_=>false
def Jhp:Option Blk→Option Blk→Bool
 | some (.cells cs k),some (.cells cs' k')=>QhB k k'&&XeY cs cs'
 | _,_=>false
theorem XgH {a b:Addr} (h:QgS a b=true):a=b:=by
 unfold QgS at h
 split at h
 ·simp only [Zga,Bool.and_eq_true,decide_eq_true_eq] at h;rw [h.1,h.2]
 ·cases h
theorem Zdt {a b:Value} (h:XeH a b=true):a=b:=by
 unfold XeH at h
 split at h
 ·rename_i a b
  have:=Jcz h
  cases a;cases b
  simp only at this
  congr 2
  exact Array.ext' this
 ·simp only [Bool.and_eq_true,decide_eq_true_eq] at h;rw [h.1,h.2]
 ·rw [beq_iff_eq.1 h]
 ·rfl
 ·rw [XgH h]
 ·simp only [Zga,Bool.and_eq_true,decide_eq_true_eq] at h;rw [h.1,h.2]
 ·simp only [Zga,Bool.and_eq_true,decide_eq_true_eq] at h;rw [XgH h.1,h.2.1,h.2.2]
 ·cases h
theorem Xe1: ∀{a b:List Value},XeY a b=true→a=b
 | [],[],_=>rfl
 | x::xs,y::ys,h=>by
  simp only [XeY,Bool.and_eq_true] at h
  rw [Zdt h.1,Xe1 h.2]
 | [],_::_,h=>by cases h
 | _::_,[],h=>by cases h
theorem Jhv {a b:Option Blk} (h:Jhp a b=true):a=b:=by
 unfold Jhp at h
 split at h
 ·rename_i cs k j k'
  simp only [Bool.and_eq_true] at h
  have:k=k':=by
   have h:=h.1
   unfold QhB at h
   split at h
   ·rfl
   ·rfl
   ·simp only [Zga,decide_eq_true_eq] at h;rw [h]
   ·cases h
  rw [this,Xe1 h.2]
 ·cases h
def Xif (ops:Array Oper) (t:Env) (h h':Tr) (o:Oper):Bool:=
 match o.op with
 | .load _ a=>XdH ops o t (Xhp (ev t a) λl _=>Jhp (h'.get l) (h.get l)) true
 | _=>true
def Jg4 (ops:Array Oper) (t:Env) (h h':Tr):List Oper→Bool
 | []=>true
 | o::os=>Xif ops t h h' o&&Jg4 ops t h h' os
def Qh7 (P:Program) (C:ECT) (N:Nat) (ops:Array Oper) (o:Oper) (guards:Bool) (t:List Value) (h:Tr) (n:Nat) (chk:Tr→Bool) (K:EE):Bool:=
 match Jdr N o.dst with
 | false=>false
 | true=>
  XdH ops o (XdX t)
   (eop P C o (XdX t) h n λv h n=>chk h&&Zgl guards t o.dst v λt=>K t h n)
   (JhK t o.dst undef λt=>K t h n)
def XhW (P:Program) (C:ECT) (N:Nat) (ops:Array Oper) (bef:List Nat) (K:List Bool→EE):List Nat→List Bool→EE
 | [],ld,t,h,n=>K ld t h n
 | i::is,ld,t,h,n=>
  match ops.toList[i]? with
  | none=>false
  | some o=>match !ld.getD i true&& !Ja4 o.op&&QaR ops.toList bef ld i with
   | false=>XhW P C N ops bef K is ld t h n
   | true=>Qh7 P C N ops o (guarded ops.toList i) t h n (λ_=>true) λt h n=>XhW P C N ops bef K is (ld.set i true) t h n
def Qhd (F:Nat→Bool):List Nat→Bool
 | []=>true
 | [e]=>F e
 | e::es=>F e&&Qhd F es
def JgU (P:Program) (C:ECT) (N:Nat) (ops:Array Oper) (bef:List Nat) (K:EE):Nat→List Bool→EE
 | 0,_,_,_,_=>false
 | k+1,ld,t,h,n=>
  XhW P C N ops bef (λld t h n=>
   match nexts ops.toList bef ld with
   | []=>K t h n
   | es=>Qhd (λe=>match ops.toList[e]? with
    | none=>false
    | some o=>Qh7 P C N ops o (guarded ops.toList e) t h n (λh'=>Jg4 ops (XdX t) h h' (QfV ops.toList bef ld e)) λt h n=>JgU P C N ops bef K k (ld.set e true) t h n) es)
   (List.range ops.size) ld t h n
def Xe3 (P:Program) (C:ECT) (N:Nat) (ops:Array Oper) (K:EE) (t:List Value) (h:Tr) (n:Nat):Bool:=
 match ZeJ ops.toList (XJ ops.toList)&&ZdZ N ops with
 | false=>false
 | true=>JgU P C N ops (XJ ops.toList) K (ops.size+1) (List.replicate ops.size false) t h n
def Qfx (K:EE) (Q:EQ):EQ
 | .normal,t,h,n=>K t h n
 | e,t,h,n=>Q e t h n
def Je4 (id:Nat) (Q:EQ):EQ
 | .exit i,t,h,n=>match i==id with|true=>Q .normal t h n|false=>Q (.exit i) t h n
 | e,t,h,n=>Q e t h n
def Xhu (F:EE→EE):Nat→EE
 | 0=>λ_ _ _=>false
 | k+1=>λt h n=>F (Xhu F k) t h n
def XdQ (P:Program) (fuel:Nat) (C:ECT) (N:Nat):Code→EQ→EE
 | .skip,Q=>Q .normal
 | .region _ ops false,Q=>λt h n=>match ZdZ N ops with
  | false=>false
  | true=>JhS P C N ops (Q .normal) ops.toList 0 t h n
 | .region _ ops true,Q=>Xe3 P C N ops (Q .normal)
 | .seq a b,Q=>XdQ P fuel C N a (Qfx (XdQ P fuel C N b Q) Q)
 | .cond c a b,Q=>λt h n=>match Qd2 c with
  | false=>false
  | true=>QfC (ev (XdX t) c) (XdQ P fuel C N a Q t h n) (XdQ P fuel C N b Q t h n)
 | .block id c,Q=>XdQ P fuel C N c (Je4 id Q)
 | .loop c,Q=>Xhu (λI=>XdQ P fuel C N c (Qfx I Q)) fuel
 | .exit id,Q=>Q (.exit id)
 | .ret,Q=>Q .ret
 | _,_=>λ_ _ _=>false
def JhO (P:Program) (t:Env) (h:Tr):List ResultVar→(List Value→Bool)→Bool
 | [],K=>K []
 | .tmp i::r,K=>fV (t i) λv=>JhO P t h r λvs=>K (v::vs)
 | .cell a ty::r,K=>Xhp (t a) λl o=>ZcX P ty λag=>match ag with
  | some k=>Xh8 h l o k λcs=>JhO P t h r λvs=>K (.agg cs.toArray::vs)
  | none=>eLd h l o λv=>JhO P t h r λvs=>K (v::vs)
def ZhR (P:Program) (rs:List ResultVar) (K:EC):EQ
 | .normal,t,h,n| .ret,t,h,n=>JhO P (XdX t) h rs λvs=>K (tup vs) h n
 | _,_,_,_=>false
def XhI (P:Program) (fuel:Nat) (C:ECT) (f:FuncId) (args:List Value) (h:Tr) (n:Nat) (K:EC):Bool:=
 match P.funcs[f]? with
 | some fn=>match fn.body,fn.name== "runtime.NumGoroutine",decide (args.length≤fn.ntmps) with
  | some c,false,true=>fL (args++List.replicate (fn.ntmps-args.length) undef) λt=>XdQ P fuel C fn.ntmps c (ZhR P fn.results.toList K) t h n
  | _,_,_=>false
 | none=>false
abbrev EH:=FuncId→Option (ECT→List Value→Tr→Nat→EC→Bool)
def Jy (P:Program) (H:EH) (fuel:Nat):Nat→ECT
 | 0=>λ_ _ _ _ _=>false
 | k+1=>λf args h n K=>match H f with
  | some e=>e (Jy P H fuel k) args h n K
  | none=>XhI P fuel (Jy P H fuel k) f args h n K
section
variable {h:Tr} {n:Nat}
theorem Zfo {v:Value} {a b:Bool} {A B:Prop} (j:a=true→A) (hb:b=true→B) (e:QfC v a b=true):Qa v A B:=by
 unfold QfC at e;unfold Qa;split at e<;>first|exact j e|exact hb e|cases e
theorem JeG {t:List Value} {d:Option Tmp} {v:Value} {k:List Value→Bool} {K:Env→Prop} (j: ∀t',k t'=true→K (XdX t')) (e:JhK t d v k=true):K (put (XdX t) d v):=by
 obtain ⟨t',E,_,I⟩:=Qh3 e
 rw [←E];exact j _ I
theorem Jfw {gd:Bool} {t:List Value} {d:Option Tmp} {v:Value} {k:List Value→Bool} {K:Env→Prop} (j: ∀t',k t'=true→K (XdX t')) (e:Zgl gd t d v k=true):Zdd gd (XdX t) d v K:=by
 cases gd with
 | true=>exact Zfo (JeG j) (JeG j) e
 | false=>exact JeG j e
theorem Zdr {ops:Array Oper} {o:Oper} {t:Env} {a b:Bool} {A B:Prop} (I:a=true→A) (hb:b=true→B) (e:XdH ops o t a b=true):QE ops o t A B:=by
 unfold XdH at e;unfold QE
 revert e;generalize o.guard=gd;intro e
 split at e
 ·exact I e
 ·rename_i j E
  revert e;try simp only
  generalize (ops[j]?).bind (·.dst)=u;intro e
  split at e
  ·rename_i d
   revert e;try simp only
   generalize t d=v;intro e
   split at e
   ·rename_i c
    revert e;try simp only
    generalize (c==E)=b;intro e
    cases b
    ·exact hb e
    ·exact I e
   ·exact hb e
   ·cases e
  ·cases e
def KR (k:EE) (K:Qk):Prop:= ∀t h n,k t h n=true→K (XdX t) h.get n
theorem QgN {D:ECT} {C:CT} (E:CTR D C) {N:Nat} {ops:Array Oper} {k:EE} {K:Qk} (j:KR k K): ∀(l:List Oper) (i:Nat) (t:List Value) (h:Tr) (n:Nat),JhS P D N ops k l i t h n=true→ZfC P C N ops K l i (XdX t) h.get n
 | [],i,t,h,n,e=>j _ _ _ e
 | o::rest,i,t,h,n,e=>by
  simp only [JhS] at e
  simp only [ZfC]
  revert e;generalize Jdr N o.dst=b;intro e
  cases b
  ·cases e
  ·exact Zdr (QhT E λv h n=>Jfw (K:=λt=>ZfC P C N ops K rest (i+1) t h.get n) λt'=>QgN E j rest (i+1) t' h n)
    (JeG (K:=λt=>ZfC P C N ops K rest (i+1) t h.get n) λt'=>QgN E j rest (i+1) t' h n) e
theorem Xh6 {ops:Array Oper} {t:Env} {h h':Tr} {o:Oper} (e:Xif ops t h h' o=true):Qh6 ops t h.get h'.get o:=by
 unfold Xif at e;unfold Qh6
 revert e;generalize o.op=op;intro e
 cases op with
 | load ty a=>exact Zdr (JeK λl o e=>Jhv e) (λ_=>trivial) e
 | _=>trivial
theorem QgF {ops:Array Oper} {t:Env} {h h':Tr} {p:Prop} (hp:p): ∀{l:List Oper},Jg4 ops t h h' l=true→Qew ops t h.get h'.get l p
 | [],_=>hp
 | o::os,e=>by
  simp only [Jg4,Bool.and_eq_true] at e
  exact ⟨Xh6 e.1,QgF hp e.2⟩
theorem Zhh {D:ECT} {C:CT} (O:CTR D C) {N:Nat} {ops:Array Oper} {o:Oper} {gd:Bool} {t:List Value} {j:G→Prop→Prop} {E:Tr→Bool} (J: ∀h p,E h=true→p→j h.get p) {k:EE} {K:Qk} (I:KR k K) (e:Qh7 P D N ops o gd t h n E k=true):ZgE P C N ops o gd (XdX t) h.get n j K:=by
 unfold Qh7 at e;unfold ZgE
 revert e;generalize Jdr N o.dst=b;intro e
 cases b
 ·cases e
 ·exact Zdr (QhT O λv h n e=>by
     simp only [Bool.and_eq_true] at e
     exact J _ _ e.1 (Jfw (K:=λt=>K t h.get n) (λt'=>I t' h n) e.2))
    (JeG (K:=λt=>K t h.get n) λt'=>I t' h n) e
theorem QgC {D:ECT} {C:CT} (E:CTR D C) {N:Nat} {ops:Array Oper} {bef:List Nat} {k:List Bool→EE} {K:List Bool→Qk} (j: ∀ld,KR (k ld) (K ld)): ∀(is:List Nat) (ld:List Bool),KR (XhW P D N ops bef k is ld) (Xf9 P C N ops bef K is ld)
 | [],ld=>j ld
 | i::is,ld=>λt h n e=>by
  simp only [XhW] at e
  simp only [Xf9]
  revert e;generalize ops.toList[i]? =u;intro e
  cases u with
  | none=>cases e
  | some o=>
   revert e;try simp only
   generalize (!ld.getD i true&& !Ja4 o.op&&QaR ops.toList bef ld i)=b;intro e
   cases b
   ·exact QgC E j is ld t h n e
   ·exact Zhh E (λ_ _ _ p=>p) (QgC E j is _) e
theorem Zgw {f:Nat→Bool} {F:Nat→Prop} (j: ∀i,f i=true→F i): ∀(l:List Nat),Qhd f l=true→Zfb F l
 | [],_=>trivial
 | [e],h=>j _ h
 | e::e2::es,h=>by
  simp only [Qhd,Bool.and_eq_true] at h
  exact ⟨j _ h.1,Zgw j (e2::es) h.2⟩
theorem ZgK {D:ECT} {C:CT} (j:CTR D C) {N:Nat} {ops:Array Oper} {bef:List Nat} {k:EE} {K:Qk} (E:KR k K): ∀(d:Nat) (ld:List Bool),KR (JgU P D N ops bef k d ld) (Xdj P C N ops bef K d ld)
 | 0,ld=>λ_ _ _ e=>by cases e
 | d+1,ld=>λt h n e=>by
  simp only [JgU] at e
  simp only [Xdj]
  refine QgC j (λld t h n e=> ?_) _ _ t h n e
  revert e;generalize nexts ops.toList bef ld=u;intro e
  cases u with
  | nil=>exact E _ _ _ e
  | cons I is=>
   refine Zgw (λi e=> ?_) (I::is) e
   revert e;generalize ops.toList[i]? =u;intro e
   cases u with
   | none=>cases e
   | some o=>
    exact Zhh j (λh' p hc hp=>QgF hp hc) (ZgK j E d _) e
theorem Jgl {D:ECT} {C:CT} (E:CTR D C) {N:Nat} {ops:Array Oper} {k:EE} {K:Qk} (j:KR k K):KR (Xe3 P D N ops k) (Qb4 P C N ops K):=λt h n e=>by
 unfold Xe3 at e;unfold Qb4
 revert e;generalize (ZeJ ops.toList (XJ ops.toList)&&ZdZ N ops)=b;intro e
 cases b
 ·cases e
 ·exact ZgK E j _ _ t h n e
def QR (q:EQ) (Q:Qbk):Prop:= ∀x,KR (q x) (Q x)
theorem ZfA {k:EE} {K:Qk} {q:EQ} {Q:Qbk} (j:KR k K) (hq:QR q Q):QR (Qfx k q) (JdV K Q):=λx=>by
 cases x<;>first|exact j|exact hq _
theorem ZgH {q:EQ} {Q:Qbk} {id:Nat} (hq:QR q Q):QR (Je4 id q) (Zdf id Q):=λx=>by
 cases x with
 | exit i=>intro t h n e;simp only [Je4] at e;simp only [Zdf];revert e;generalize (i==id)=b;intro e;cases b<;>exact hq _ t h n e
 | _=>exact hq _
theorem Zht {j:Nat} {D:ECT} {C:CT} (V:CTR D C) {N:Nat}: ∀(c:Code) {q:EQ} {Q:Qbk},QR q Q→KR (XdQ P j D N c q) (Zau P C N c Q):=by
 intro c
 induction c with
 | skip=>intro q Q hq;exact hq _
 | exit id=>intro q Q hq;exact hq _
 | ret=>intro q Q hq;exact hq _
 | region id ops draw=>
  intro q Q hq
  cases draw with
  | false=>
   intro t h n e
   simp only [XdQ] at e
   simp only [Zau]
   revert e;generalize ZdZ N ops=b;intro e
   cases b
   ·cases e
   ·exact QgN V (hq _) _ _ t h n e
  | true=>exact Jgl V (hq _)
 | seq a b J E=>intro q Q hq;exact J (ZfA (E hq) hq)
 | cond c a b J E=>
  intro q Q hq t h n e
  simp only [XdQ] at e
  simp only [Zau]
  revert e;generalize Qd2 c=b;intro e
  cases b
  ·cases e
  ·exact Zfo (J hq t h n) (E hq t h n) e
 | block id c U=>intro q Q hq;exact U (ZgH hq)
 | loop c U=>
  intro q Q hq t h n e
  intro I Y
  have: ∀d,KR (Xhu (λI=>XdQ P j D N c (Qfx I q)) d) I:=by
   intro d
   induction d with
   | zero=>intro t h n e;cases e
   | succ d O=>intro t h n e;exact Y _ _ _ (U (ZfA O hq) t h n e)
  exact this j t h n e
 | _=>intro q Q hq t h n e;cases e
theorem ZeF {t:Env}: ∀{rs:List ResultVar} {k:List Value→Bool} {K:List Value→Prop},(∀l,k l=true→K l)→JhO P t h rs k=true→Xf8 P t h.get rs K
 | [],k,K,j,e=>j _ e
 | .tmp i::r,k,K,j,e=>by
  simp only [JhO,JdS] at e
  exact ZeF (rs:=r) (k:=λvs=>k (t i::vs)) (K:=λvs=>K (t i::vs)) (λ_=>j _) e
 | .cell a ty::r,k,K,j,e=>by
  refine JeK (λl o e=>ZbO (λag e=> ?_) e) e
  cases ag with
  | none=>exact Qff (λ_ e=>ZeF (λ_=>j _) e) e
  | some z=>exact ZgA (λ_ e=>ZeF (λ_=>j _) e) e
theorem Zhw {rs:List ResultVar} {k:EC} {K:Cont} (j: ∀v h n,k v h n=true→K v h.get n):QR (ZhR P rs k) (QhP P rs K):=λx t h n e=>by
 cases x with
 | normal=>exact ZeF (λvs e=>⟨_,Sub.refl _,j _ _ _ e⟩) e
 | ret=>exact ZeF (λvs e=>⟨_,Sub.refl _,j _ _ _ e⟩) e
 | _=>cases e
theorem Xgv (args:List Value) (m:Nat):XdX (args++List.replicate m undef)=Qi args:=by
 funext i
 simp only [XdX,Qi,List.getD_eq_getElem?_getD]
 by_cases hi:i<args.length
 ·rw [List.getElem?_append_left hi]
 ·rw [List.getElem?_append_right (by omega),List.getElem?_eq_none (l:=args) (by omega)]
  simp only [List.getElem?_replicate]
  split<;>rfl
theorem Zhv {j:Nat} {D:ECT} {C:CT} (J:CTR D C):CTR (XhI P j D) (Qe P C):=λf args h n k K I e=>by
 unfold XhI at e;unfold Qe
 revert e;generalize P.funcs[f]? =u;intro e
 cases u with
 | none=>cases e
 | some E=>
  revert e;try simp only
  generalize hb:E.body=b;generalize (E.name== "runtime.NumGoroutine")=c;generalize decide (args.length≤E.ntmps)=d;intro e
  split at e
  ·rw [JdX] at e
   have:=Zht J _ (Zhw I) _ _ _ e
   rw [Xgv] at this
   exact this
  ·cases e
def HOk (H:EH) (C:CT):Prop:= ∀f e,H f=some e→ ∀D:ECT,CTR D C→ ∀args h n (k:EC) (K:Cont),(∀v h n,k v h n=true→K v h.get n)→e D args h n k=true→C f args h.get n K
theorem XcW {j:Nat} {H:EH} {C:CT} (E: ∀f args g n K,Qe P C f args g n K→C f args g n K) (I:HOk H C): ∀d,CTR (Jy P H j d) C
 | 0=>λ_ _ _ _ _ _ _ e=>by cases e
 | d+1=>λf args h n k K J e=>by
  simp only [Jy] at e
  cases hf:H f with
  | none=>rw [hf] at e;exact E _ _ _ _ _ (Zhv (XcW E I d) f args h n k K J e)
  | some x=>rw [hf] at e;exact I f x hf _ (XcW E I d) args h n k K J e
end
end
section
variable {P:Program}
def ZfE:Value→Value→Bool
 | .agg xs,.agg ys=>XeY xs.toList ys.toList
 | a,b=>XeH a b
theorem Zfm {a b:Value} (h:ZfE a b=true):a=b:=by
 unfold ZfE at h
 split at h
 ·rename_i xs ys
  have:=Xe1 h
  cases xs;cases ys
  simp only at this
  rw [this]
 ·exact Zdt h
def JfA:List Value→List Value→Bool
 | [],[]=>true
 | x::xs,y::ys=>ZfE x y&&JfA xs ys
 | _,_=>false
theorem Jfv: ∀{a b:List Value},JfA a b=true→a=b
 | [],[],_=>rfl
 | x::xs,y::ys,h=>by
  simp only [JfA,Bool.and_eq_true] at h
  rw [Zfm h.1,Jfv h.2]
 | [],_::_,h=>by cases h
 | _::_,[],h=>by cases h
def Zaz:Value→Value→Bool
 | .tuple xs,.tuple ys=>JfA xs.toList ys.toList
 | a,b=>ZfE a b
theorem QgO {a b:Value} (h:Zaz a b=true):a=b:=by
 unfold Zaz at h
 split at h
 ·rename_i xs ys
  have:=Jfv h
  cases xs;cases ys
  simp only at this
  rw [this]
 ·exact Zfm h
def XEH (P:Program) (H:EH) (X:XT):XT:=λC f args g n K=>X C f args g n K∨
 ∃(v:Value) (fuel depth:Nat),plain 3 v=true∧args.all (plain 3)=true∧Jy P H fuel depth f args .nil 0 (λv' _ _=>Zaz v' v)=true∧ ∀n',K v g n'
theorem Zg1 {H:EH} {X:XT} (J:Qep X):Qep (XEH P H X):=by
 rintro C C' Q f args g n K Y E (h|⟨v,j,depth,I,V,O,U⟩)
 ·exact .inl (J _ _ Q _ _ _ _ _ _ E h)
 ·exact .inr ⟨v,j,depth,I,V,O,λn'=>E _ _ _ (U n')⟩
theorem ZdA {μ μ':Mu}: ∀{xs ys:List Value},VRs μ xs ys→xs.all (plain 3)=true→VRs μ' xs ys
 | _,_,.nil,_=> .nil
 | _,_,.cons h hs,hp=>by
  simp only [List.all_cons,Bool.and_eq_true] at hp
  have:=XcK h 3 hp.1
  subst this
  exact .cons (XaW μ' 3 _ hp.1) (ZdA hs hp.2)
theorem Qgg (Y: ∀B,XaK P B) {H:EH} {X:XT} (Z:Qdz P X) (hH:HOk H (JbG P)):Qdz P (XEH P H X):=by
 rintro f args g n K (h|⟨v,O,depth,Q,h2,h3,h4⟩) μ w B cargs hs U
 ·exact Z _ _ _ _ _ h μ w B cargs hs U
 have hx:JbG P f args (Tr.nil).get 0 (λj _ _=>j=v):=XcW (XcD Y) hH depth f args .nil 0 _ _ (λj h n e=>QgO e) h3
 have hc:=hx (λ_=>none) w w.heap.size cargs
  ⟨λ_ _ h=>by simp at h,λ_ _=>rfl,λ_ _ _ _ h=>by simp at h,λ_ _ _ _ _ _ _ _ _ _ h=>by simp at h,Nat.le_refl _⟩ (ZdA U h2)
 have E: ∀j w',Fin w.heap.size w (λ_=>none) (λj _ _=>j=v) j w'→Fin B w μ K j w':=by
  rintro j w' ⟨v1,g1,n1,μ1,rfl,J,_,_,hb⟩
  have J:=XcK J 3 Q
  subst J
  refine ⟨_,g,n,μ,h4 n,XaW μ 3 _ Q,?_,Ext.refl _,?_⟩
  ·exact ⟨hs.dom,hs.gdom,λl b m V hm=>(hs.live l b m V hm).mono (Ext.refl μ) (hb.block _ (hs.live l b m V hm).lt),hs.inj,Nat.le_trans hs.base hb.size⟩
  ·exact hb.mono hs.base
 revert hc
 generalize (callFunc f cargs).run P w=r
 intro hc
 cases r with
 | ok x w'=>
  cases x<;>simp only [Upon] at hc ⊢ <;>first
   | exact E _ _ hc
   | exact hc.elim
   | exact Calls.mono hc λe I he=>by cases e<;>simp only [Zg2] at he ⊢ <;>exact E _ _ he
   | exact Rows.mono hc λv I he=>E _ _ he
   | skip
 | halt x w'=>exact hc.elim
theorem Qb7 {f:FuncId} {j:Func} {args:Array Value} {w:World} (I:P.funcs[f]? =some j) (hb:j.body.isSome=true) (E:(j.name== "runtime.NumGoroutine")=false):(callFunc f args).run P w= .ok (.enter f args) w:=by
 obtain ⟨c,hb⟩:=Option.isSome_iff_exists.1 hb
 simp [callFunc,I,hb]
 simp at E
 simp [E]
end
section
variable {P:Program}
inductive XK where
 | ld (k:IntKind)
 | add (k:IntKind)
 | slow (Fs:List FuncId)
 | tab (t:List Value→Option Value)
 | look (r:List Value→G→Option (Value×Option (Nat×Nat×Value)))
abbrev Zf9:=FuncId→Option XK
def XcY (k:IntKind) (args:List Value) (g:G) (n:Nat) (K:Cont):Prop:=
 match args with
 | [.pointer (some ⟨l,o,none⟩)]=>kLd g l o λv=>match v with
  | .int k' x=>k'=k∧K (.int k' x) g n
  | _=>False
 | _=>False
def Zej (k:IntKind) (args:List Value) (g:G) (n:Nat) (K:Cont):Prop:=
 match args with
 | [.pointer (some ⟨l,o,none⟩),.int k2 y]=>k2=k∧kLd g l o λv=>match v with
  | .int k' x=>k'=k∧kSt g l o (.int k (k.wrap (x+y))) λg=>K (.int k (k.wrap (x+y))) g n
  | _=>False
 | _=>False
def Zer (C:CT) (Fs:List FuncId) (args:List Value) (g:G) (n:Nat) (K:Cont):Prop:=
 match args with
 | [.pointer (some ⟨l,o,none⟩),.func (.func F) us vs]=>F∈Fs∧kLd g l o (λv=>v= .int .u32 0)∧kLd g l (o+1) (λv=>v= .int .i32 0)∧kSt g l (o+1) (.int .i32 1) λg1=>
   C F (us.toList++vs.toList) g1 n λ_ g2 n2=>kLd g2 l (o+1) (λv=>v= .int .i32 1)∧kSt g2 l o (.int .u32 1) λg3=>kSt g3 l (o+1) (.int .i32 0) λg4=>K (.tuple #[]) g4 n2
 | _=>False
def Jhu (t:List Value→Option Value) (args:List Value) (g:G) (n:Nat) (K:Cont):Prop:=
 match t args with
 | some v=>K v g n
 | none=>False
def ZdQ (r:List Value→G→Option (Value×Option (Nat×Nat×Value))) (args:List Value) (g:G) (n:Nat) (K:Cont):Prop:=
 match r args g with
 | some (v,none)=>K v g n
 | some (v,some (l,o,x))=>kSt g l o x λg=>K v g n
 | none=>False
def XF (T:Zf9):XT:=λC f args g n K=>
 match T f with
 | some (.ld k)=>XcY k args g n K
 | some (.add k)=>Zej k args g n K
 | some (.slow Fs)=>Zer C Fs args g n K
 | some (.tab t)=>Jhu t args g n K
 | some (.look r)=>ZdQ r args g n K
 | none=>False
def Qhh (P:Program) (slow F:FuncId):Prop:= ∀(b off:Nat) (us vs:Array Value) (w:World) (R:Ending→World→Prop),
 w.cell? ⟨b,off,none⟩=some (.int .u32 0)→w.cell? ⟨b,off+1,none⟩=some (.int .i32 0)→w.frozen? ⟨b,off+1,none⟩=false→
 (Calls P F (us++ #[]++vs) (w.setCell ⟨b,off+1,none⟩ (.int .i32 1)) λe w2=>(∃v,e= .returned v)∧(∃x,w2.cell? ⟨b,off,none⟩=some x)∧w2.frozen? ⟨b,off,none⟩=false∧
   w2.cell? ⟨b,off+1,none⟩=some (.int .i32 1)∧w2.frozen? ⟨b,off+1,none⟩=false∧R (.returned (.tuple #[])) ((w2.drew.setCell ⟨b,off,none⟩ (.int .u32 1)).setCell ⟨b,off+1,none⟩ (.int .i32 0)))→
 Calls P slow #[.pointer (some ⟨b,off,none⟩),.func (.func F) us vs] w R
structure QeH (P:Program) (f:FuncId):Prop where
 ex: ∃fn,P.funcs[f]? =some fn∧fn.body.isSome=true∧(fn.name== "runtime.NumGoroutine")=false
structure ZeL (P:Program) (f:FuncId) (e:Array Value→Sem Value):Prop where
 ex: ∃fn,P.funcs[f]? =some fn∧(fn.name== "runtime.NumGoroutine")=false∧fn.body.isNone=true∧Extern.findNext fn=none∧Extern.find fn=some e
def Xiq (P:Program) (f:FuncId):XK→Prop
 | .ld k=>ZeL P f (Extern.Atomic.loadT (.int k))
 | .add k=>ZeL P f (Extern.Atomic.update (Op.intArith .add) k true)
 | .slow Fs=>QeH P f∧ ∀F∈Fs,QeH P F∧Qhh P f F
 | .tab t=> ∀args v g n K,t args=some v→K v g n→JbG P f args g n K
 | .look r=> ∀args g n K,ZdQ r args g n K→JbG P f args g n K
def XhS (P:Program) (T:Zf9):Prop:= ∀f k,T f=some k→Xiq P f k
theorem Zfj {k:IntKind} {args:List Value} {g:G} {n:Nat} {K K':Cont} (j: ∀v g n,K v g n→K' v g n) (h:XcY k args g n K):XcY k args g n K':=by
 unfold XcY at*
 split at h
 ·refine Qdp (λv h=> ?_) h
  split at h
  ·exact ⟨h.1,j _ _ _ h.2⟩
  ·exact h.elim
 ·exact h.elim
theorem JfE {k:IntKind} {args:List Value} {g:G} {n:Nat} {K K':Cont} (j: ∀v g n,K v g n→K' v g n) (h:Zej k args g n K):Zej k args g n K':=by
 unfold Zej at*
 split at h
 ·refine ⟨h.1,Qdp (λv h=> ?_) h.2⟩
  split at h
  ·exact ⟨h.1,Jcm (λ_=>j _ _ _) h.2⟩
  ·exact h.elim
 ·exact h.elim
theorem XfZ {C C':CT} (J:CLe C C') {Fs:List FuncId} {args:List Value} {g:G} {n:Nat} {K K':Cont} (j: ∀v g n,K v g n→K' v g n) (h:Zer C Fs args g n K):Zer C' Fs args g n K':=by
 unfold Zer at*
 split at h
 ·obtain ⟨E,Q,I,O⟩:=h
  exact ⟨E,Q,I,Jcm (λg h=>J _ _ _ _ _ _ (λ_ U n2 h=>⟨h.1,Jcm (λV h=>Jcm (λY h=>j _ _ _ h) h) h.2⟩) h) O⟩
 ·exact h.elim
theorem Jgw {t:List Value→Option Value} {args:List Value} {g:G} {n:Nat} {K K':Cont} (j: ∀v g n,K v g n→K' v g n) (h:Jhu t args g n K):Jhu t args g n K':=by
 unfold Jhu at*
 split at h
 ·exact j _ _ _ h
 ·exact h.elim
theorem Jf0 {r:List Value→G→Option (Value×Option (Nat×Nat×Value))} {args:List Value} {g:G} {n:Nat} {K K':Cont} (j: ∀v g n,K v g n→K' v g n) (h:ZdQ r args g n K):ZdQ r args g n K':=by
 unfold ZdQ at*
 split at h
 ·exact j _ _ _ h
 ·exact Jcm (λg h=>j _ _ _ h) h
 ·exact h.elim
theorem Xhq (T:Zf9):Qep (XF T):=by
 intro C C' E f args g n K I j h
 unfold XF at*
 split at h
 ·exact Zfj j h
 ·exact JfE j h
 ·exact XfZ E j h
 ·exact Jgw j h
 ·exact Jf0 j h
 ·exact h.elim
section
variable {g:G} {n:Nat} {K:Cont} {f:FuncId} {args:List Value}
theorem Qir {μ:Mu} {x:Value} {c:Array Value} (h:VRs μ [x] c.toList): ∃x',c= #[x']∧VR μ x x':=by
 generalize hl:c.toList=l at h
 cases h with
 | cons j E=>
  cases E
  exact ⟨_,by apply Array.ext';rw [hl],j⟩
theorem Zh8 {μ:Mu} {x y:Value} {c:Array Value} (h:VRs μ [x,y] c.toList): ∃x' y',c= #[x',y']∧VR μ x x'∧VR μ y y':=by
 generalize hl:c.toList=l at h
 cases h with
 | cons E J=>
  cases J with
  | cons j I=>
   cases I
   exact ⟨_,_,by apply Array.ext';rw [hl],E,j⟩
theorem QdL {l o:Nat} {J:Value→Prop} (h:kLd g l o J): ∃cs k v,g l=some (.cells cs k)∧cs[o]? =some v∧J v:=by
 obtain ⟨cs,k,E,O⟩:=ZX h
 obtain ⟨v,j,I⟩:=XbJ O
 exact ⟨cs,k,v,E,j,I⟩
theorem XdI {l o:Nat} {v:Value} {J:G→Prop} (h:kSt g l o v J): ∃cs k,g l=some (.cells cs k)∧k.rw=true∧o<cs.length∧J (upd g l (some (.cells (cs.set o v) k))):=by
 obtain ⟨cs,k,E,O,j,_,I⟩:=ZX h
 exact ⟨cs,k,E,O,j,I⟩
theorem Jg1 {k:IntKind} (V:ZeL P f (Extern.Atomic.loadT (.int k))) (h:XcY k args g n K):JbG P f args g n K:=by
 intro μ w B cargs hs J
 obtain ⟨fn,E,Z,U,Y,I⟩:=V.ex
 unfold XcY at h
 split at h
 ·rename_i l o
  obtain ⟨x',rfl,hx⟩:=Qir J
  cases hx with
  | @ptr _ m _ hm=>
   obtain ⟨cs,bk,v,O,Q,hq⟩:=QdL h
   split at hq
   ·obtain ⟨rfl,hq⟩:=hq
    obtain ⟨v',hc,j⟩:=hs.load O hm Q
    cases j
    rw [run_call_load E Z U Y _ I hc]
    exact Xl hs (.int _ _) hq
   ·exact hq.elim
 ·exact h.elim
theorem Qhu {k:IntKind} (ht:ZeL P f (Extern.Atomic.update (Op.intArith .add) k true)) (h:Zej k args g n K):JbG P f args g n K:=by
 intro μ w B cargs hs hr
 obtain ⟨fn,U,h2,h3,h4,V⟩:=ht.ex
 unfold Zej at h
 split at h
 ·rename_i l o k2 y
  obtain ⟨x',y',rfl,hx,Y⟩:=Zh8 hr
  cases Y
  obtain ⟨rfl,h⟩:=h
  cases hx with
  | @ptr _ m _ hm=>
   obtain ⟨cs,bk,v,E,hv,h⟩:=QdL h
   split at h
   ·rename_i k' x
    obtain ⟨rfl,h⟩:=h
    obtain ⟨v',hc,Q⟩:=hs.load E hm hv
    cases Q
    obtain ⟨Z,aa,j,I,J,h⟩:=XdI h
    rw [E] at j;cases j
    obtain ⟨_,hz,O,hb⟩:=hs.store E hm J I (.int _ (IntKind.wrap _ (x+y)))
    rw [run_call_add U h2 h3 h4 _ V hc hz (by simp [go_sem];rfl)]
    exact ⟨_,_,n,μ,h,.int _ _,O,Ext.refl μ,hb⟩
   ·exact h.elim
 ·exact h.elim
theorem ZgX {Fs:List FuncId} (hb:QeH P f) (hF: ∀F∈Fs,QeH P F∧Qhh P f F) (h:Zer (JbG P) Fs args g n K):JbG P f args g n K:=by
 intro μ w B cargs hs hr
 obtain ⟨fn,b1,b2,b3⟩:=hb.ex
 unfold Zer at h
 split at h
 ·rename_i l o F us vs
  obtain ⟨x',y',rfl,hx,hy⟩:=Zh8 hr
  obtain ⟨ac,h0,h1,h⟩:=h
  obtain ⟨ap,aq⟩:=hF F ac
  cases hy with
  | @func _ _ _ ai aE e1 e2 r1 r2=>
  cases hx with
  | @ptr _ m _ hm=>
   obtain ⟨cs,bk,v,hg,hv,rfl⟩:=QdL h0
   obtain ⟨v0,ao,E⟩:=hs.load hg hm hv
   cases E
   obtain ⟨ad,aa,v,j,aF,rfl⟩:=QdL h1
   rw [hg] at j;cases j
   obtain ⟨v1,aw,E⟩:=hs.load hg hm aF
   cases E
   obtain ⟨ad,aa,j,az,aA,h⟩:=XdI h
   rw [hg] at j;cases j
   obtain ⟨_,hz,ax,am⟩:=hs.store hg hm aA az (.int .i32 1)
   rw [Qb7 b1 b2 b3]
   show Calls P f _ w (Zg2 B w μ K)
   refine aq _ _ _ _ _ _ ao aw hz ?_
   obtain ⟨fF,f1,f2,f3⟩:=ap.ex
   have ae:VRs μ (us.toList++vs.toList) (ai++ #[]++aE).toList:=by
    rw [Array.toList_append,Array.toList_append,List.append_nil]
    exact (VRs.of_get (by simpa using e1) λi x y hx hy=>r1 i x y (by simpa using hx) (by simpa using hy)).append (VRs.of_get (by simpa using e2) λi x y hx hy=>r2 i x y (by simpa using hx) (by simpa using hy))
   have Y:=h μ _ B _ ax ae
   rw [Qb7 f1 f2 f3] at Y
   refine Calls.mono Y λe w2 he=> ?_
   cases e with
   | panicked c=>exact he.elim
   | outgrown=>exact he.elim
   | returned v=>
    obtain ⟨_,g2,n2,μ2,⟨aB,U⟩,_,Q,Z,av⟩:=he
    have J:=Z _ _ hm
    obtain ⟨al,bk2,_,I,ab,rfl⟩:=QdL aB
    obtain ⟨u1,ay,E⟩:=Q.load I J ab
    cases E
    obtain ⟨ad,aa,j,O,ah,U⟩:=XdI U
    rw [I] at j;cases j
    obtain ⟨hd,an,aj,ak⟩:=Q.drew.store I J ah O (.int .u32 1)
    obtain ⟨aH,aI,aD,af,V,U⟩:=XdI U
    obtain ⟨_,aJ,au,aG⟩:=aj.store aD J V af (.int .i32 0)
    have aC:w2.frozen? ⟨m.b,m.s+(o+1),none⟩=false:=by
     have ar:o+1<al.length:=(List.getElem?_eq_some_iff.1 ab).1
     exact (Q.store I J ar O (.int .i32 0)).2.1
    refine ⟨⟨_,rfl⟩,?_,?_,ay,aC,?_⟩
    ·obtain ⟨u,hu⟩:=hd;exact ⟨u,by simpa using hu⟩
    ·simpa using an
    ·exact ⟨_,_,n2,μ2,U,.tuple rfl (by intro i x y hx;simp at hx),au,Z,(am.trans av).trans (((Below.refl B w2).drew.trans ak).trans aG)⟩
 ·exact h.elim
end
theorem Qes {T:Zf9} (E:XhS P T):Qdz P (XF T):=by
 intro f args g n K h
 unfold XF at h
 split at h
 ·rename_i k j;exact Jg1 (E _ _ j) h
 ·rename_i k j;exact Qhu (E _ _ j) h
 ·rename_i k j;exact ZgX (E _ _ j).1 (E _ _ j).2 h
 ·rename_i t j
  unfold Jhu at h
  split at h
  ·rename_i v I;exact E _ _ j _ _ _ _ _ I h
  ·exact h.elim
 ·rename_i r j;exact E _ _ j _ _ _ _ h
 ·exact h.elim
def Jie (args:List Value):Option Value:=match args with
 | [.string s,.int .u8 c]=>some (match (List.range s.size).find? (λi=>s[i]! ==c.toNat.toUInt8) with|some i=> .int .i64 i|none=> .int .i64 (-1))
 | _=>none
theorem QhI {f:FuncId} (U:ZeL P f Extern.BytealgIndexByte.indexByte): ∀args v g n K,Jie args=some v→K v g n→JbG P f args g n K:=by
 intro args v g n K h j μ w B cargs hs O
 obtain ⟨Z,E,Y,Q,V,I⟩:=U.ex
 unfold Jie at h
 split at h
 ·rename_i s c
  obtain ⟨x',y',rfl,hx,J⟩:=Zh8 O
  cases hx;cases J
  cases h
  rw [run_callFunc_extern E Y Q V I]
  have e:(Extern.BytealgIndexByte.indexByte #[.string s,.int .u8 c]).run P w= .ok (match (List.range s.size).find? (λi=>s[i]! ==c.toNat.toUInt8) with|some i=> .int .i64 i|none=> .int .i64 (-1)) w:=by
   show Sem.run P (match (List.range s.size).find? (λi=>s[i]! ==c.toNat.toUInt8) with|some i=>pure (goInt i)|none=>pure (goInt (-1))) w=_
   generalize (List.range s.size).find? (λi=>s[i]! ==c.toNat.toUInt8)=o
   cases o<;>rfl
  rw [e]
  refine Xl hs ?_ j
  split<;>exact .int _ _
 ·cases h
def Qhj (k:IntKind) (_:ECT) (args:List Value) (h:Tr) (n:Nat) (K:EC):Bool:=
 match args with
 | [.pointer (some ⟨l,o,none⟩)]=>eLd h l o λv=>match v with
  | .int k' x=>decide (k'=k)&&K (.int k' x) h n
  | _=>false
 | _=>false
def Zh4 (k:IntKind) (_:ECT) (args:List Value) (h:Tr) (n:Nat) (K:EC):Bool:=
 match args with
 | [.pointer (some ⟨l,o,none⟩),.int k2 y]=>decide (k2=k)&&eLd h l o λv=>match v with
  | .int k' x=>decide (k'=k)&&Zev (k.wrap (x+y)) λi=>eSt h l o (.int k i) λh=>K (.int k i) h n
  | _=>false
 | _=>false
def Jh5 (Fs:List FuncId) (D:ECT) (args:List Value) (h:Tr) (n:Nat) (K:EC):Bool:=
 match args with
 | [.pointer (some ⟨l,o,none⟩),.func (.func F) us vs]=>Fs.contains F&&(eLd h l o (λv=>XeH v (.int .u32 0))&&(eLd h l (o+1) (λv=>XeH v (.int .i32 0))&&eSt h l (o+1) (.int .i32 1) λh1=>
   D F (us.toList++vs.toList) h1 n λ_ h2 n2=>eLd h2 l (o+1) (λv=>XeH v (.int .i32 1))&&eSt h2 l o (.int .u32 1) λh3=>eSt h3 l (o+1) (.int .i32 0) λh4=>K (.tuple #[]) h4 n2))
 | _=>false
def Jil (t:List Value→Option Value) (_:ECT) (args:List Value) (h:Tr) (n:Nat) (K:EC):Bool:=
 match t args with
 | some v=>K v h n
 | none=>false
def Qh4 (r:List Value→G→Option (Value×Option (Nat×Nat×Value))) (_:ECT) (args:List Value) (h:Tr) (n:Nat) (K:EC):Bool:=
 match r args h.get with
 | some (v,none)=>K v h n
 | some (v,some (l,o,x))=>eSt h l o x λh=>K v h n
 | none=>false
def HT (T:Zf9):EH:=λf=>match T f with
 | some (.ld k)=>some (Qhj k)
 | some (.add k)=>some (Zh4 k)
 | some (.slow Fs)=>some (Jh5 Fs)
 | some (.tab t)=>some (Jil t)
 | some (.look r)=>some (Qh4 r)
 | none=>none
theorem JhR {T:Zf9} {C:CT} (U: ∀f args g n K,XF T C f args g n K→C f args g n K):HOk (HT T) C:=by
 intro f e j D J args h n k K E he
 refine U _ _ _ _ _ ?_
 unfold HT at j
 unfold XF
 cases ht:T f with
 | none=>rw [ht] at j;cases j
 | some x=>
  rw [ht] at j
  cases x with
  | ld Q=>
   cases j
   unfold Qhj at he
   show XcY _ _ _ _ _
   unfold XcY
   split at he
   ·refine Qff (λv e=> ?_) he
    split at e
    ·simp only [Bool.and_eq_true,decide_eq_true_eq] at e;exact ⟨e.1,E _ _ _ e.2⟩
    ·cases e
   ·cases he
  | add Q=>
   cases j
   unfold Zh4 at he
   show Zej _ _ _ _ _
   unfold Zej
   split at he
   ·simp only [Bool.and_eq_true,decide_eq_true_eq] at he
    refine ⟨he.1,Qff (λv e=> ?_) he.2⟩
    split at e
    ·simp only [Bool.and_eq_true,decide_eq_true_eq,Qda] at e
     exact ⟨e.1,XfG (λh e=>E _ _ _ e) e.2⟩
    ·cases e
   ·cases he
  | slow Fs=>
   cases j
   unfold Jh5 at he
   show Zer _ _ _ _ _ _
   unfold Zer
   split at he
   ·simp only [Bool.and_eq_true] at he
    obtain ⟨I,Y,O,V⟩:=he
    refine ⟨by simpa using I,Qff (λv e=>Zdt e) Y,Qff (λv e=>Zdt e) O,XfG (λZ e=>J _ _ _ _ _ _ (λv6 h6 n6 e=> ?_) e) V⟩
    simp only [Bool.and_eq_true] at e
    exact ⟨Qff (λv e=>Zdt e) e.1,XfG (K:=λg=>kSt g _ _ _ _) (λh7 e=>XfG (λh8 e=>E _ _ _ e) e) e.2⟩
   ·cases he
  | tab t=>
   cases j
   unfold Jil at he
   show Jhu _ _ _ _ _
   unfold Jhu
   split at he
   ·exact E _ _ _ he
   ·cases he
  | look r=>
   cases j
   unfold Qh4 at he
   show ZdQ _ _ _ _ _
   unfold ZdQ
   split at he
   ·exact E _ _ _ he
   ·exact XfG (λh e=>E _ _ _ e) he
   ·cases he
def XP (P:Program) (T:Zf9):XT:=XEH P (HT T) (XF T)
theorem QhJ (T:Zf9):Qep (XP P T):=Zg1 (Xhq T)
theorem Jg7 (E: ∀B,XaK P B) {T:Zf9} (j:XhS P T):Qdz P (XP P T):=Qgg E (Qes j) (JhR (Qes j))
end
section
variable {P:Program}
def isU64:Value→Bool| .int .u64 _=>true|_=>false
theorem ZfF {v:Value} (h:isU64 v=true):isCell v=true:=by unfold isU64 at h;split at h<;>first|rfl|cases h
theorem QgH {v:Value} (h:isU64 v=true): ∃z,v= .int .u64 z:=by unfold isU64 at h;split at h<;>first|exact ⟨_,rfl⟩|cases h
def ZdX (es:List Value) (o:Nat):Option (Int×List Value):=
 if o+9≤es.length∧((es.drop (o+1)).take 8).all isU64=true then match es[o]? with
  | some (.int .i64 y)=>some (y,(es.drop (o+1)).take 8)
  | _=>none
 else none
def XfM (es:List Value) (os:Nat) (x:Int):Nat→Option (Option (List Value))
 | 0=>some none
 | k+1=>match ZdX es (os+k*9) with
  | some (y,d)=>match XfM es os x k with
   | some r=>if y=x then some (some d) else some r
   | none=>none
  | none=>none
def ZfZ (g:G) (a:Option Addr) (len:Nat) (x:Int):Option (Option (List Value)):=
 if len=0 then some none else if len<1099511627776 then match a with
  | some ⟨ls,os,none⟩=>match g ls with
   | some (.cells es _)=>XfM es os x len
   | _=>none
  | _=>none
 else none
def ZhI (ld od:Nat) (x:Int) (g:G):Option (Value×Option (Nat×Nat×Value)):=
 match g ld with
 | some (.cells ds _)=>match ds[od]?,ds[od+2]? with
  | some (.slice (some ⟨ll,ol,none⟩) m _),some (.int .i64 r)=>
   if 0≤x∧x<m∧ll≠ld∧m<1099511627776 then match g ll with
    | some (.cells ws _)=>if ol+x.toNat*8+8≤ws.length∧((ws.drop (ol+x.toNat*8)).take 8).all isU64=true then
      some (.tuple #[.agg ((ws.drop (ol+x.toNat*8)).take 8).toArray,.int .i64 0],some (ld,od+2,.int .i64 (IntKind.wrap .i64 (r+1))))
     else none
    | _=>none
   else none
  | _,_=>none
 | _=>none
def ZfY (args:List Value) (g:G):Option (Value×Option (Nat×Nat×Value)):=
 match args with
 | [.pointer (some ⟨l,o,none⟩),.int .i64 x]=>match g l with
  | some (.cells cs _)=>match cs[o]?,cs[o+2]? with
   | some (.pointer (some ⟨ld,od,none⟩)),some (.slice a len _)=>match ZfZ g a len x with
    | some (some d)=>some (.tuple #[.agg d.toArray,.int .i64 0],none)
    | some none=>ZhI ld od x g
    | none=>none
   | _,_=>none
  | _=>none
 | _=>none
def XfB (E:Nat→Value):Value:= .agg #[E 0,E 1,E 2,E 3,E 4,E 5,E 6,E 7]
def Zhn (P:Program) (f:FuncId):Prop:= ∀(b off db dof sb so len cap:Nat) (a:Option Addr) (x:Int) (L:Nat→Int) (E:Nat→Nat→Value) (w:World) (R:Ending→World→Prop),
 w.cell? ⟨b,off,none⟩=some (.pointer (some ⟨db,dof,none⟩))→w.cell? ⟨b,off+2,none⟩=some (.slice a len cap)→(0<len→a=some ⟨sb,so,none⟩)→len<1099511627776→
 (∀j,j<len→w.cell? ⟨sb,so+j*9,none⟩=some (.int .i64 (L j)))→(∀j i,j<len→i<8→w.cell? ⟨sb,so+j*9+1+i,none⟩=some (E j i))→(∀j i,isU64 (E j i)=true)→
 (∀k,k<len→L k=x→(∀j,k<j→j<len→L j≠x)→ ∀w1,Below w.heap.size w w1→R (.returned (.tuple #[XfB (E k),.int .i64 0])) w1)→
 ((∀j,j<len→L j≠x)→ ∃(lb lo m c:Nat) (r:Int) (W:Nat→Value),lb≠db∧w.cell? ⟨db,dof,none⟩=some (.slice (some ⟨lb,lo,none⟩) m c)∧0≤x∧x<m∧m<1099511627776∧
  (∀i,i<8→w.cell? ⟨lb,lo+x.toNat*8+i,none⟩=some (W i))∧(∀i,isU64 (W i)=true)∧w.cell? ⟨db,dof+2,none⟩=some (.int .i64 r)∧w.frozen? ⟨db,dof+2,none⟩=false∧
  ∀w1 w2,Below w.heap.size w w1→Below w.heap.size (w1.setCell ⟨db,dof+2,none⟩ (.int .i64 (IntKind.wrap .i64 (r+1)))) w2→R (.returned (.tuple #[XfB W,.int .i64 0])) w2)→
 Calls P f #[.pointer (some ⟨b,off,none⟩),.int .i64 x] w R
section
variable {es:List Value} {os:Nat} {x:Int}
theorem ZdJ {o:Nat} {y:Int} {d:List Value} (h:ZdX es o=some (y,d)):o+9≤es.length∧es[o]? =some (.int .i64 y)∧d=(es.drop (o+1)).take 8∧d.all isU64=true:=by
 unfold ZdX at h
 split at h
 ·rename_i j
  split at h
  ·rename_i z E
   cases h
   exact ⟨j.1,E,rfl,j.2⟩
  ·cases h
 ·cases h
theorem XeL: ∀(k:Nat) (r:Option (List Value)),XfM es os x k=some r→(∀j,j<k→ ∃y d,ZdX es (os+j*9)=some (y,d))∧
  (match r with
   | none=> ∀j y d,j<k→ZdX es (os+j*9)=some (y,d)→y≠x
   | some d=> ∃i,i<k∧ZdX es (os+i*9)=some (x,d)∧ ∀j y d,i<j→j<k→ZdX es (os+j*9)=some (y,d)→y≠x)
 | 0,r,h=>by
  cases h
  exact ⟨λj O=>absurd O (by omega),λj _ _ O=>absurd O (by omega)⟩
 | k+1,r,h=>by
  simp only [XfM] at h
  split at h
  ·rename_i y d he
   split at h
   ·rename_i r' U
    obtain ⟨h1,Z⟩:=XeL k r' U
    refine ⟨λj O=> ?_,?_⟩
    ·by_cases I:j=k
     ·subst I;exact ⟨_,_,he⟩
     ·exact h1 j (by omega)
    ·split at h
     ·rename_i J
      subst J
      cases h
      exact ⟨k,by omega,he,λj y d O I=>absurd I (by omega)⟩
     ·rename_i J
      cases h
      cases r with
      | none=>
       intro j V Q O E
       by_cases I:j=k
       ·subst I;rw [he] at E;cases E;exact J
       ·exact Z j V Q (by omega) E
      | some d0=>
       obtain ⟨i,hi,hid,hl⟩:=Z
       refine ⟨i,by omega,hid,λj V Q O Y E=> ?_⟩
       by_cases I:j=k
       ·subst I;rw [he] at E;cases E;exact J
       ·exact hl j V Q O (by omega) E
   ·cases h
  ·cases h
end
section
variable {g:G} {n:Nat} {K:Cont} {f:FuncId} {args:List Value} {μ:Mu} {w:World} {B:Nat}
def orZ (o:Option Value):Value:=match o with|some v=>if isU64 v=true then v else .int .u64 0|none=> .int .u64 0
theorem XfD (o:Option Value):isU64 (orZ o)=true:=by
 unfold orZ;split
 ·split
  ·assumption
  ·rfl
 ·rfl
theorem VR.isU64 {v j:Value} (h:VR μ v j):Go.Proofs.YtmchcjaomcdbmaaGreat.Abs.isU64 j=Go.Proofs.YtmchcjaomcdbmaaGreat.Abs.isU64 v:=by cases h<;>rfl
theorem Jdm {v:Value} (h:isU64 v=true):orZ (some v)=v:=by simp [orZ,h]
theorem Sim.below {w':World} (h:Sim μ g n w B) (hb:Below w.heap.size w w'):Sim μ g n w' B:=
 ⟨h.dom,h.gdom,λl b m e f=>(h.live l b m e f).mono (Ext.refl μ) (hb.block _ (h.live l b m e f).lt),h.inj,Nat.le_trans h.base hb.size⟩
theorem Xgs {ds:List Value} {E:Nat→Value} (O:ds.length=8) (h: ∀(i:Nat) (v:Value),ds[i]? =some v→i<8→VR μ v (E i)):VR μ (.agg ds.toArray) (XfB E):=by
 refine .agg (by simp [O]) λi x y hx j=> ?_
 have J:i<8:=by
  have:=(Array.getElem?_eq_some_iff.1 j).1;simpa using this
 have I:=h i x (by simpa using hx) J
 match i,J with
 | 0,_=>cases j;exact I
 | 1,_=>cases j;exact I
 | 2,_=>cases j;exact I
 | 3,_=>cases j;exact I
 | 4,_=>cases j;exact I
 | 5,_=>cases j;exact I
 | 6,_=>cases j;exact I
 | 7,_=>cases j;exact I
theorem Zge {v j:Value} (h:VR μ v j):VR μ (.tuple #[v,.int .i64 0]) (.tuple #[j,.int .i64 0]):=by
 refine .tuple rfl λi x y hx E=> ?_
 match i with
 | 0=>cases hx;cases E;exact h
 | 1=>cases hx;cases E;exact .int _ _
 | i+2=>simp at hx
theorem Zha (hb:QeH P f) (aT:Zhn P f) (h:ZdQ ZfY args g n K):JbG P f args g n K:=by
 intro μ w B cargs hs hr
 obtain ⟨fn,b1,b2,b3⟩:=hb.ex
 have aw: ∃q,ZfY args g=some q∧(match q with|(v,none)=>K v g n|(v,some (l,o,x))=>kSt g l o x λg=>K v g n):=by
  unfold ZdQ at h
  split at h
  ·rename_i v Q;exact ⟨_,Q,h⟩
  ·rename_i v l o x Q;exact ⟨_,Q,h⟩
  ·exact h.elim
 clear h
 obtain ⟨q,hq,hK⟩:=aw
 unfold ZfY at hq
 split at hq
 ·rename_i l o x
  split at hq
  ·rename_i cs bk hg
   split at hq
   ·rename_i ld od a len c hd aP
    obtain ⟨x',y',rfl,hx,hy⟩:=Zh8 hr
    cases hy
    cases hx with
    | @ptr _ m _ hm=>
    rw [Qb7 b1 b2 b3]
    show Calls P f _ w (Zg2 B w μ K)
    obtain ⟨dv,af,aY⟩:=hs.load hg hm hd
    obtain ⟨sv,aL,aH⟩:=hs.load hg hm aP
    cases aY with
    | @ptr _ md _ ab=>
    have al: ∃(a':Option Addr) (c':Nat),sv= .slice a' len c'∧(0<len→ ∀ls os,a=some ⟨ls,os,none⟩→ ∃m,μ ls=some m∧a'=some ⟨m.b,m.s+os,none⟩):=by
     cases aH with
     | nilslice=>exact ⟨_,_,rfl,λh=>absurd h (by omega)⟩
     | @slx l m o n c a' hc hn hm ha=>
      refine ⟨_,_,rfl,λah ls os e=> ?_⟩
      cases e
      rcases ha with ha|ha
      ·exact ⟨m,hm,by rw [ha]⟩
      ·omega
     | @sll l m o j n c o' hm h1 h2 h3 h4=>
      refine ⟨_,_,rfl,λah ls os e=> ?_⟩
      cases e
      rcases h4 with h4|h4
      ·exact ⟨m,hm,by rw [h4]⟩
      ·omega
    obtain ⟨a',c',rfl,aB⟩:=al
    clear aH
    have ax: ∃r,ZfZ g a len x=some r∧(match r with|some d=>q=(.tuple #[.agg d.toArray,.int .i64 0],none)|none=>ZhI ld od x g=some q):=by
     split at hq
     ·rename_i d hf;cases hq;exact ⟨_,hf,rfl⟩
     ·rename_i hf;exact ⟨_,hf,hq⟩
     ·cases hq
    clear hq
    obtain ⟨r,hf,I⟩:=ax
    have aE:len<1099511627776∧ ∃(sb so:Nat) (L:Nat→Int) (E:Nat→Nat→Value),(0<len→a'=some ⟨sb,so,none⟩)∧(∀j,j<len→w.cell? ⟨sb,so+j*9,none⟩=some (.int .i64 (L j)))∧
      (∀j i,j<len→i<8→w.cell? ⟨sb,so+j*9+1+i,none⟩=some (E j i))∧(∀j i,isU64 (E j i)=true)∧
      (match r with
       | none=>True
       | some d=> ∀k,k<len→L k=x→(∀j,k<j→j<len→L j≠x)→VR μ (.agg d.toArray) (XfB (E k)))∧
      ((∀j,j<len→L j≠x)→r=none)∧((∃k,k<len∧L k=x)→r≠none):=by
     unfold ZfZ at hf
     split at hf
     ·rename_i h0
      cases hf
      subst h0
      exact ⟨by omega,0,0,λ_=>0,λ_ _=> .int .u64 0,λh=>absurd h (by omega),λj hj=>absurd hj (by omega),λj _ hj=>absurd hj (by omega),λ_ _=>rfl,trivial,λ_=>rfl,λ⟨k,hk,_⟩=>absurd hk (by omega)⟩
     ·rename_i h0
      split at hf
      ·rename_i ak
       split at hf
       ·rename_i ls os _
        split at hf
        ·rename_i es ek an
         obtain ⟨ms,ar,ao⟩:=aB (by omega) _ _ rfl
         obtain ⟨ac,ae⟩:=XeL _ _ hf
         refine ⟨ak,ms.b,ms.s+os,λj=>match ZdX es (os+j*9) with|some (y,_)=>y|none=>0,λj i=>orZ (w.cell? ⟨ms.b,ms.s+os+j*9+1+i,none⟩),λ_=>ao,?_,?_,λ_ _=>XfD _,?_,?_,?_⟩
         ·intro j hj
          obtain ⟨y,d,he⟩:=ac j hj
          simp only [he]
          obtain ⟨_,h2,_,_⟩:=ZdJ he
          obtain ⟨v',Q,J⟩:=hs.load an ar h2
          cases J
          rw [←Q,Nat.add_assoc]
         ·intro j i hj hi
          obtain ⟨y,d,he⟩:=ac j hj
          obtain ⟨h1,_,aW,af⟩:=ZdJ he
          have V:isU64 (es[os+j*9+1+i]'(by omega))=true:=by
           subst aW
           refine List.all_eq_true.1 af _ (List.mem_of_getElem? (i:=i) ?_)
           rw [List.getElem?_take,if_pos hi,List.getElem?_drop,List.getElem?_eq_getElem (by omega)]
          obtain ⟨v',Q,J⟩:=hs.load (o:=os+j*9+1+i) an ar (List.getElem?_eq_getElem (by omega))
          have e:ms.s+(os+j*9+1+i)=ms.s+os+j*9+1+i:=by omega
          rw [e] at Q
          show _=some (orZ (w.cell? ⟨ms.b,ms.s+os+j*9+1+i,none⟩))
          rw [Q,Jdm (J.isU64.trans V)]
         ·cases r with
          | none=>trivial
          | some d=>
           intro k hk U Y
           obtain ⟨i0,aq,am,aJ⟩:=ae
           have ba:k=i0:=by
            obtain ⟨y,d',he⟩:=ac k hk
            simp only [he] at U
            subst U
            rcases Nat.lt_trichotomy k i0 with aD|aN|bf
            ·have:=Y i0 aD aq
             simp only [am] at this
             exact absurd rfl this
            ·exact aN
            ·exact absurd rfl (aJ k _ _ bf hk he)
           subst ba
           obtain ⟨h1,h2,rfl,af⟩:=ZdJ am
           refine Xgs (by simp;omega) λi v Q hi=> ?_
           have V:=List.all_eq_true.1 af _ (List.mem_of_getElem? Q)
           rw [List.getElem?_take,if_pos hi,List.getElem?_drop] at Q
           obtain ⟨v',ai,J⟩:=hs.load an ar Q
           have e:ms.s+(os+k*9+1+i)=ms.s+os+k*9+1+i:=by omega
           rw [e] at ai
           show VR μ v (orZ (w.cell? ⟨ms.b,ms.s+os+k*9+1+i,none⟩))
           rw [ai,Jdm (J.isU64.trans V)];exact J
         ·intro au
          cases r with
          | none=>rfl
          | some d=>
           obtain ⟨i0,aq,am,_⟩:=ae
           have:=au i0 aq
           simp only [am] at this
           exact absurd rfl this
         ·rintro ⟨k,hk,U⟩ rfl
          obtain ⟨y,d',he⟩:=ac k hk
          simp only [he] at U
          exact ae k y d' hk he U
        ·cases hf
       ·cases hf
      ·cases hf
    obtain ⟨ah,sb,so,L,E,ao,hL,hE,aU,aj,av,ay⟩:=aE
    refine aT m.b (m.s+o) md.b (md.s+od) sb so len c' a' x L E w _ af (by rw [←aL,Nat.add_assoc]) ao ah hL hE aU ?_ ?_
    ·intro k hk U Y w1 aI
     cases r with
     | none=>exact absurd rfl (ay ⟨k,hk,U⟩)
     | some d=>
      subst I
      exact ⟨_,g,n,μ,hK,Zge (aj k hk U Y),hs.below aI,Ext.refl μ,aI.mono hs.base⟩
    ·intro au
     have aQ:=av au
     subst aQ
     replace I:ZhI ld od x g=some q:=I
     unfold ZhI at I
     split at I
     ·rename_i ds dk Z
      split at I
      ·rename_i ll ol mm cc rr bd bb
       split at I
       ·rename_i ap
        obtain ⟨aR,aK,bc,aO⟩:=ap
        split at I
        ·rename_i ws wk az
         split at I
         ·rename_i aF
          cases I
          obtain ⟨lv,aX,bh⟩:=hs.load Z ab bd
          obtain ⟨rv,aS,aw⟩:=hs.load Z ab bb
          cases aw
          obtain ⟨bl,bi,aA,aG,ak,hK⟩:=XdI hK
          rw [Z] at aA;cases aA
          have bg: ∃(O:Pl) (c2:Nat),μ ll=some O∧lv= .slice (some ⟨O.b,O.s+ol,none⟩) mm c2:=by
           cases bh with
           | @slx _ O _ _ _ _ hc hn aa ha=>
            rcases ha with ha|ha
            ·exact ⟨O,_,aa,by rw [ha]⟩
            ·omega
           | @sll _ O _ j _ c2 o2 aa h1 h2 h3 h4=>
            rcases h4 with h4|h4
            ·exact ⟨O,_,aa,by rw [h4]⟩
            ·omega
          obtain ⟨O,c2,aa,rfl⟩:=bg
          have aV:=hs.store Z ab ak aG (.int .i64 (IntKind.wrap .i64 (rr+1)))
          refine ⟨O.b,O.s+ol,mm,c2,rr,λi=>orZ (w.cell? ⟨O.b,O.s+ol+x.toNat*8+i,none⟩),hs.apart Z ab (by cases dk<;>simp_all [Blk.rw,BK.rw]) az aa bc,aX,aR,aK,aO,?_,λ_=>XfD _,?_,?_,?_⟩
          ·intro i hi
           have V:isU64 (ws[ol+x.toNat*8+i]'(by omega))=true:=by
            refine List.all_eq_true.1 aF.2 _ (List.mem_of_getElem? (i:=i) ?_)
            rw [List.getElem?_take,if_pos hi,List.getElem?_drop,List.getElem?_eq_getElem (by omega)]
           obtain ⟨v',Q,J⟩:=hs.load (o:=ol+x.toNat*8+i) az aa (List.getElem?_eq_getElem (by omega))
           have e:O.s+(ol+x.toNat*8+i)=O.s+ol+x.toNat*8+i:=by omega
           rw [e] at Q
           show _=some (orZ (w.cell? ⟨O.b,O.s+ol+x.toNat*8+i,none⟩))
           rw [Q,Jdm (J.isU64.trans V)]
          ·rw [←aS,Nat.add_assoc]
          ·rw [Nat.add_assoc];exact aV.2.1
          ·intro w1 w2 h1 h2
           have aZ:=hs.below h1
           obtain ⟨_,_,ad,aC⟩:=aZ.store Z ab ak aG (.int .i64 (IntKind.wrap .i64 (rr+1)))
           rw [←Nat.add_assoc] at ad aC
           have bj:w.heap.size≤(w1.setCell ⟨md.b,md.s+od+2,none⟩ (.int .i64 (IntKind.wrap .i64 (rr+1)))).heap.size:=by
            simpa [World.setCell] using h1.size
           have aM:Sim μ (upd g ld (some (.cells (ds.set (od+2) (.int .i64 (IntKind.wrap .i64 (rr+1)))) dk))) n w2 B:=by
            refine ⟨ad.dom,ad.gdom,λl b m e f=> ?_,ad.inj,Nat.le_trans ad.base h2.size⟩
            refine (ad.live l b m e f).mono (Ext.refl μ) (h2.block _ ?_)
            by_cases hl:l=ld
            ·subst hl
             rw [ab] at f;cases f
             exact (hs.live _ _ _ Z ab).lt
            ·rw [Zd _ _ hl] at e
             exact (hs.live _ _ _ e f).lt
           refine ⟨_,_,n,μ,hK,Zge (Xgs (by simp;omega) λi v Q hi=> ?_),aM,Ext.refl μ,((h1.mono hs.base).trans aC).trans (h2.mono hs.base)⟩
           have V:=List.all_eq_true.1 aF.2 _ (List.mem_of_getElem? Q)
           rw [List.getElem?_take,if_pos hi,List.getElem?_drop] at Q
           obtain ⟨v',ai,J⟩:=hs.load az aa Q
           have e:O.s+(ol+x.toNat*8+i)=O.s+ol+x.toNat*8+i:=by omega
           rw [e] at ai
           show VR μ v (orZ (w.cell? ⟨O.b,O.s+ol+x.toNat*8+i,none⟩))
           rw [ai,Jdm (J.isU64.trans V)];exact J
         ·cases I
        ·cases I
       ·cases I
      ·cases I
     ·cases I
   ·cases hq
  ·cases hq
 ·cases hq
end
end
section
variable {P:Program}
theorem XeB (V: ∀B,XaK P B) {H:EH} (hH:HOk H (JbG P)) {f:FuncId} {args:List Value} {v:Value} (I depth:Nat) (Q:plain 3 v=true) (h2:args.all (plain 3)=true)
  (h3:Jy P H I depth f args .nil 0 (λj _ _=>Zaz j v)=true) {g:G} {n:Nat} {K:Cont} (Z:K v g n):JbG P f args g n K:=by
 intro μ w B cargs hs Y
 have hx:JbG P f args (Tr.nil).get 0 (λj _ _=>j=v):=XcW (XcD V) hH depth f args .nil 0 _ _ (λj h n e=>QgO e) h3
 have hc:=hx (λ_=>none) w w.heap.size cargs
  ⟨λ_ _ h=>by simp at h,λ_ _=>rfl,λ_ _ _ _ h=>by simp at h,λ_ _ _ _ _ _ _ _ _ _ h=>by simp at h,Nat.le_refl _⟩ (ZdA Y h2)
 have E: ∀j w',Fin w.heap.size w (λ_=>none) (λj _ _=>j=v) j w'→Fin B w μ K j w':=by
  rintro j w' ⟨v1,g1,n1,μ1,rfl,O,_,_,hb⟩
  have O:=XcK O 3 Q
  subst O
  refine ⟨_,g,n,μ,Z,XaW μ 3 _ Q,?_,Ext.refl _,?_⟩
  ·exact ⟨hs.dom,hs.gdom,λl b m U hm=>(hs.live l b m U hm).mono (Ext.refl μ) (hb.block _ (hs.live l b m U hm).lt),hs.inj,Nat.le_trans hs.base hb.size⟩
  ·exact hb.mono hs.base
 revert hc
 generalize (callFunc f cargs).run P w=r
 intro hc
 cases r with
 | ok x w'=>
  cases x<;>simp only [Upon] at hc ⊢ <;>first
   | exact E _ _ hc
   | exact hc.elim
   | exact Calls.mono hc λe J he=>by cases e<;>simp only [Zg2] at he ⊢ <;>exact E _ _ he
   | exact Rows.mono hc λv J he=>E _ _ he
   | skip
 | halt x w'=>exact hc.elim
theorem Qhe (U: ∀B,XaK P B) {T:Zf9} (I:XhS P T) {f:FuncId} {args:List Value} {v:Value} (j depth:Nat) (Q:plain 3 v=true) (O:args.all (plain 3)=true)
  (E:Jy P (HT T) j depth f args .nil 0 (λJ _ _=>Zaz J v)=true) {g:G} {n:Nat} {K:Cont} (V:K v g n):JbG P f args g n K:=
 XeB U (JhR (Qes I)) j depth Q O E V
def Jii (v:Value) (args:List Value):Option Value:=match args with|[]=>some v|_=>none
theorem Jg8 {v j:Value} {args:List Value} (h:Jii v args=some j):args=[]∧j=v:=by
 unfold Jii at h;split at h
 ·cases h;exact ⟨rfl,rfl⟩
 ·cases h
end
section
variable {P:Program}
def Qie:Value→Value→Bool
 | .func (.func F) us vs,.func (.func F') us' vs'=>Nat.beq F F'&&(XeY us.toList us'.toList&&XeY vs.toList vs'.toList)
 | .nilFunc,.nilFunc=>true
 | a,b=>XeH a b
def Zhj:List Value→List Value→Bool
 | [],[]=>true
 | x::xs,y::ys=>Qie x y&&Zhj xs ys
 | _,_=>false
def Xhm:Option Blk→Option Blk→Bool
 | none,none=>true
 | some (.cells cs k),some (.cells cs' k')=>QhB k k'&&Zhj cs cs'
 | _,_=>false
def XgB:Tr→Tr→Bool
 | .nil,.nil=>true
 | .node l b r,.node l' b' r'=>Xhm b b'&&(XgB l l'&&XgB r r')
 | _,_=>false
def Qho:List Value→List Value→Bool
 | [],[]=>true
 | x::xs,y::ys=>Zaz x y&&Qho xs ys
 | _,_=>false
def XhB:Tr→Tr→Bool
 | .nil,_=>true
 | .node l b r,.node l' b' r'=>(match b with|none=>true|some c=>Xhm (some c) b')&&(XhB l l'&&XhB r r')
 | .node ..,.nil=>false
structure Row where
 f:FuncId
 args:List Value
 h:Tr
 n:Nat
 v:Value
 h':Tr
 n':Nat
def Row.ok (P:Program) (H:EH) (fuel depth:Nat) (r:Row):Bool:=
 Jy P H fuel depth r.f r.args r.h r.n λv h n=>Zaz v r.v&&(XhB r.h' h&&Nat.ble n r.n')
def Row.is (r:Row) (f:FuncId) (args:List Value) (h:Tr) (n:Nat):Bool:=Nat.beq f r.f&&(Nat.beq n r.n&&(Qho args r.args&&XgB h r.h))
end
section
variable {P:Program}
end
section
variable {P:Program}
inductive FK where
 | b
 | i (k:IntKind)
section
variable {H:Type} {enc:TypeId×Value→H} {w:World} {base:Nat} {spare:Nat→Bool} {held:Bool}
end
abbrev Ent:=Pl×Option (List Value)
def Qf8 (es:List Ent):Mu:=λl=>(es[l]?).map (·.1)
def gOf (es:List Ent):G:=λl=>match es[l]? with
 | some (_,some cs)=>some (.cells cs .ro)
 | _=>none
theorem Zcl {w:World} {base:Nat} {a:Addr} {n:Nat} {c:List Value} (h:w.cells? base a n=some c):c.length=n∧ ∀j,j<n→w.cell? (a.add j)=c[j]? :=by
 unfold World.cells? at h
 split at h
 ·exact ⟨by simpa using mapM_some_length h,λj E=>by simpa using mapM_some_get h j j (by simp [E])⟩
 ·cases h
theorem Jfg {els:List (List Value)} {z:Nat} (E: ∀c∈els,c.length=z) (j:0<z) (i:Nat) (v:Value) (h:els.flatten[i]? =some v): ∃c,els[i/z]? =some c∧c[i%z]? =some v:=by
 induction els generalizing i with
 | nil=>simp at h
 | cons c els J=>
  have hc:c.length=z:=E c (by simp)
  rw [List.flatten_cons,List.getElem?_append] at h
  split at h
  ·rename_i I
   rw [Nat.div_eq_of_lt (by omega),Nat.mod_eq_of_lt (by omega)]
   exact ⟨c,rfl,h⟩
  ·rename_i I
   obtain ⟨U,O,Q⟩:=J (λc hc=>E c (by simp [hc])) _ h
   have e1:i/z=(i-z)/z+1:=by rw [Nat.div_eq i z,if_pos ⟨j,by omega⟩]
   have e2:i%z=(i-z)%z:=by rw [Nat.mod_eq i z,if_pos ⟨j,by omega⟩]
   rw [e1,e2,←hc]
   rw [hc]
   refine ⟨U,by simpa [hc] using O,by simpa [hc] using Q⟩
theorem Jdz {w:World} {a:Addr} {v:Value} (h:w.cell? a=some v):a.spot=none∧ ∃cells elem j,w.heap[a.block]? =some (.cells cells elem j)∧cells[a.off]? =some v:=by
 unfold World.cell? at h
 split at h
 ·rename_i c E j I
  split at h
  ·cases h
  ·rename_i hs
   refine ⟨by simpa using hs,c,E,j,I,h⟩
 ·cases h
theorem Zd5 (a:Addr) (n:Nat):(a.add n).block=a.block:=by unfold Addr.add;split<;>rfl
theorem Xfw (a:Addr) (n:Nat):(a.add n).off=a.off+n:=by unfold Addr.add;split<;>simp_all
end
section
open Go.ChangeShapes Go.WideShapes Go.ChangeAt
variable {P:Program}
section
variable {H:Type} {enc:TypeId×Value→H} {w:World} {base:Nat} {held:Bool}
end
end
section
open Go.ChangeShapes Go.WideShapes Go.ChangeAt
variable {P:Program}
section
variable {H:Type} {enc:TypeId×Value→H} {w:World} {base:Nat} {held:Bool} {spare:Nat→Bool}
theorem ZfI {r:Reach} {I:Nat} {t:TypeId} {v:Value} (j:(∃E,P.underlying t=some (.struct E))∨ ∃n e,P.underlying t=some (.array n e)) (h:Value.okWide P w r I t v): ∃xs:Array Value,v= .agg xs:=by
 rcases j with ⟨E,j⟩|⟨n,e,j⟩
 ·simp only [Value.okWide,j] at h
  cases v<;>simp_all [Cell.okWide,Cell.ok]
 ·simp only [Value.okWide,j] at h
  cases v<;>simp_all [Cell.okWide,Cell.ok]
end
end
section
open Go.ChangeShapes Go.WideShapes Go.ChangeAt
variable {P:Program}
inductive TK where
 | b
 | i (k:IntKind)
 | s (ks:List TK)
def TK.wt:TK→Nat
 | .b=>1
 | .i k=>k.bits/8
 | .s _=>8
def wts:List TK→Nat
 | []=>0
 | k::ks=>k.wt+wts ks
def JeR (P:Program) (F:TypeId→Option (List TK)):List Field→Nat→Option (List TK)
 | [],_=>some []
 | f::fs,at_=>match decide (f.offset=at_),F f.type with
  | true,some ks=>match decide (P.cellsOf f.type=ks.length) with
   | true=>(JeR P F fs (at_+ks.length)).map (ks++ ·)
   | false=>none
  | _,_=>none
def XdW (P:Program):Nat→TypeId→Option (List TK)
 | 0=>λ_=>none
 | d+1=>λt=>match P.underlying t with
  | some .bool=>some [.b]
  | some (.int k)=>some [.i k]
  | some (.struct fs)=>JeR P (XdW P d) fs.toList 0
  | some (.array n e)=>match XdW P d e with
   | some ks=>match decide (P.cellsOf e=ks.length) with
    | true=>some (List.replicate n ks).flatten
    | false=>none
   | none=>none
  | some (.slice e)=>match XdW P d e with
   | some ks=>match decide (P.cellsOf e=ks.length),decide (0<ks.length),decide (0<P.bytesOf e∧wts ks≤P.bytesOf e) with
    | true,true,true=>some [.s ks]
    | _,_,_=>none
   | none=>none
  | _=>none
mutual
def QgP (g:G):TK→Value→Prop
 | .b,v=> ∃b,v= .bool b
 | .i k,v=> ∃n,v= .int k n∧(Lit.int k n).wf=true
 | .s ks,v=> ∃els:List (List Value),Rd g v ks.length els.length els.flatten∧(∀a m c,v= .slice a m c→(c<LC∧c*wts ks≤reachBytes)∧m≤c)∧ ∀c∈els,RepL g ks c
def RepL (g:G):List TK→List Value→Prop
 | [],cs=>cs=[]
 | k::ks,cs=> ∃v r,cs=v::r∧QgP g k v∧RepL g ks r
end
theorem RepL.len {g:G}: ∀{ks:List TK} {cs:List Value},RepL g ks cs→cs.length=ks.length
 | [],cs,h=>by unfold RepL at h;subst h;rfl
 | k::ks,cs,h=>by unfold RepL at h;obtain ⟨v,r,rfl,_,h⟩:=h;simp [RepL.len h]
theorem RepL.append {g:G}: ∀{a b:List TK} {cs ds:List Value},RepL g a cs→RepL g b ds→RepL g (a++b) (cs++ds)
 | [],b,cs,ds,h,k=>by unfold RepL at h;subst h;simpa using k
 | x::a,b,cs,ds,h,k=>by
  unfold RepL at h
  obtain ⟨v,r,rfl,j,E⟩:=h
  show RepL g (x::(a++b)) (v::(r++ds))
  unfold RepL
  exact ⟨v,_,rfl,j,RepL.append E k⟩
def Qfo (w:World) (μ:Mu) (e:Ent):Prop:= ∀cs,e.2=some cs→ ∃cells elem fz,w.heap[e.1.b]? =some (.cells cells elem fz)∧ ∀(i:Nat) (v:Value),cs[i]? =some v→ ∃v',cells[e.1.s+i]? =some v'∧VR μ v v'
theorem JhA {w:World} {es:List Ent} (h: ∀e∈es,Qfo w (Qf8 es) e):Sim (Qf8 es) (gOf es) es.length w w.heap.size:=by
 refine ⟨?_,?_,?_,?_,Nat.le_refl _⟩
 ·intro l m hm
  unfold Qf8 at hm
  rcases Nat.lt_or_ge l es.length with h|h
  ·exact h
  ·rw [List.getElem?_eq_none h] at hm;cases hm
 ·intro l E
  unfold gOf
  rw [List.getElem?_eq_none E]
 ·intro l b m hb hm
  unfold gOf at hb
  unfold Qf8 at hm
  split at hb
  ·rename_i pl cs he
   rw [he] at hm
   simp at hm hb
   subst hm;subst hb
   obtain ⟨cells,elem,J,j,O⟩:=h _ (List.mem_of_getElem? he) cs rfl
   exact ⟨cells,elem,J,j,O,(Array.getElem?_eq_some_iff.1 j).1⟩
  ·cases hb
 ·intro l U b V m Q hb _ I
  unfold gOf at hb
  split at hb
  ·simp at hb;subst hb;simp [Blk.rw] at I
  ·cases hb
def Got (w:World) (ks:List TK) (cs:List Value):Prop:=
 ∀l0:Nat,∃(ents:List Ent) (acs:List Value),∀pre post:List Ent,pre.length=l0→
  VRs (Qf8 (pre++ents++post)) acs cs∧RepL (gOf (pre++ents++post)) ks acs∧ ∀e∈ents,Qfo w (Qf8 (pre++ents++post)) e
theorem Got.nil {w:World}:Got w [] []:=λ_=>⟨[],[],λ_ _ _=>⟨.nil,rfl,by simp⟩⟩
theorem Got.append {w:World} {k1 V:List TK} {c1 c2:List Value} (E:Got w k1 c1) (I:Got w V c2):Got w (k1++V) (c1++c2):=by
 intro l0
 obtain ⟨e1,a1,E⟩:=E l0
 obtain ⟨e2,a2,I⟩:=I (l0+e1.length)
 refine ⟨e1++e2,a1++a2,λj post hp=> ?_⟩
 obtain ⟨J,r1,Q⟩:=E j (e2++post) hp
 obtain ⟨U,r2,O⟩:=I (j++e1) post (by rw [List.length_append,hp])
 have Z:j++e1++(e2++post)=j++(e1++e2)++post:=by simp [List.append_assoc]
 have Y:j++e1++e2++post=j++(e1++e2)++post:=by simp [List.append_assoc]
 rw [Z] at J r1 Q
 rw [Y] at U r2 O
 refine ⟨J.append U,r1.append r2,λe he=> ?_⟩
 rcases List.mem_append.1 he with h|h
 ·exact Q e h
 ·exact O e h
theorem Got.split {w:World} {k1 j:List TK} {cs:List Value} (E:Got w k1 (cs.take k1.length)) (I:Got w j (cs.drop k1.length)):Got w (k1++j) cs:=by
 have:=E.append I
 rwa [List.take_append_drop] at this
theorem Got.each {w:World} {ks:List TK}: ∀(els:List (List Value)),(∀c∈els,Got w ks c)→ ∀l0:Nat,∃(E:List Ent) (as:List (List Value)),as.length=els.length∧ ∀j post:List Ent,j.length=l0→
  VRs (Qf8 (j++E++post)) as.flatten els.flatten∧(∀a∈as,RepL (gOf (j++E++post)) ks a)∧ ∀e∈E,Qfo w (Qf8 (j++E++post)) e
 | [],_,l0=>⟨[],[],rfl,λ_ _ _=>⟨.nil,by simp,by simp⟩⟩
 | c::els,h,l0=>by
  obtain ⟨e1,a1,Y⟩:=h c (by simp) l0
  obtain ⟨e2,as,Z,h2⟩:=Got.each els (λc hc=>h c (by simp [hc])) (l0+e1.length)
  refine ⟨e1++e2,a1::as,by simp [Z],λj post hp=> ?_⟩
  obtain ⟨J,r1,Q⟩:=Y j (e2++post) hp
  obtain ⟨U,r2,O⟩:=h2 (j++e1) post (by rw [List.length_append,hp])
  have q1:j++e1++(e2++post)=j++(e1++e2)++post:=by simp [List.append_assoc]
  have V:j++e1++e2++post=j++(e1++e2)++post:=by simp [List.append_assoc]
  rw [q1] at J r1 Q
  rw [V] at U r2 O
  refine ⟨J.append U,λa I=> ?_,λe he=> ?_⟩
  ·rcases List.mem_cons.1 I with rfl|I
   ·exact r1
   ·exact r2 a I
  ·rcases List.mem_append.1 he with h|h
   ·exact Q e h
   ·exact O e h
theorem Zh9 {z:Nat}: ∀(l:List (List Value)),(∀c∈l,c.length=z)→l.flatten.length=l.length*z
 | [],_=>by simp
 | c::l,h=>by simp [Zh9 l (λc hc=>h c (by simp [hc])),h c (by simp),Nat.add_mul];omega
theorem Got.slice {w:World} {base:Nat} {a:Addr} {len cap:Nat} {ks:List TK} {els:List (List Value)} (hz:0<ks.length) (hl:len≤cap) (ak:els.length=cap) (V:cap<LC∧cap*wts ks≤reachBytes)
  (U: ∀(i:Nat) (c:List Value),els[i]? =some c→Got w ks c∧w.cells? base (a.add (i*ks.length)) ks.length=some c):Got w [.s ks] [.slice (some a) len cap]:=by
 intro l0
 have ah: ∀c∈els,c.length=ks.length:=λc hc=>by
  obtain ⟨i,hi⟩:=List.getElem?_of_mem hc
  exact (Zcl (U i c hi).2).1
 by_cases h0:cap=0
 ·subst h0
  obtain rfl:len=0:=by omega
  refine ⟨[(⟨0,0,0,0⟩,none)],[.slice (some ⟨l0,0,none⟩) 0 0],λO post hp=>⟨?_,?_,λe he cs h=> ?_⟩⟩
  ·refine .cons (.slx (m:=⟨0,0,0,0⟩) 0 0 0 a (by decide) (Nat.le_refl _) ?_ (.inr rfl)) .nil
   simp [Qf8,←hp]
  ·unfold RepL
   refine ⟨_,[],rfl,?_,rfl⟩
   unfold QgP
   exact ⟨[],⟨_,_,rfl,by simp,.inr ⟨l0,0,rfl⟩,λh=>absurd h (by simp)⟩,λa m c h=>by cases h;exact ⟨⟨by decide,by rw [Nat.zero_mul];exact Nat.zero_le _⟩,Nat.le_refl _⟩,by simp⟩
  ·simp at he;subst he;cases h
 ·obtain ⟨j,as,an,hg⟩:=Got.each els (λc hc=>by obtain ⟨i,hi⟩:=List.getElem?_of_mem hc;exact (U i c hi).1) l0
  have Z: ∃c,els[0]? =some c:=⟨els[0]'(by omega),List.getElem?_eq_getElem (by omega)⟩
  obtain ⟨c0,Z⟩:=Z
  obtain ⟨_,Y⟩:=U 0 c0 Z
  have I:=(Zcl Y).2 0 hz
  have al:=(Zcl Y).1
  rw [List.getElem?_eq_getElem (by omega)] at I
  obtain ⟨E,cells,elem,fz,hh,_⟩:=Jdz I
  have E:a.spot=none:=by simpa [Addr.add] using E
  have hh:w.heap[a.block]? =some (.cells cells elem fz):=by simpa [Addr.add] using hh
  have ae: ∀(i:Nat) (v:Value),els.flatten[i]? =some v→cells[a.off+i]? =some v:=by
   intro i v hv
   obtain ⟨c,h1,h2⟩:=Jfg ah hz i v hv
   obtain ⟨am,ab⟩:=U _ c h1
   have hj:=(Zcl ab).2 (i%ks.length) (Nat.mod_lt _ hz)
   rw [h2] at hj
   obtain ⟨_,af,aj,ao,ad,Q⟩:=Jdz hj
   have hb:(Addr.add (Addr.add a (i/ks.length*ks.length)) (i%ks.length)).block=a.block:=by rw [Zd5,Zd5]
   have ho:(Addr.add (Addr.add a (i/ks.length*ks.length)) (i%ks.length)).off=a.off+i:=by
    have hx:(Addr.add (Addr.add a (i/ks.length*ks.length)) (i%ks.length)).off=a.off+i/ks.length*ks.length+i%ks.length:=by rw [Xfw,Xfw]
    rw [hx]
    have:=Nat.div_add_mod i ks.length
    rw [Nat.mul_comm] at this
    omega
   rw [hb,hh] at ad
   cases ad
   rw [ho] at Q
   exact Q
  refine ⟨j++[(⟨a.block,a.off,0,0⟩,some as.flatten)],[.slice (some ⟨l0+j.length,0,none⟩) len cap],λO post hp=> ?_⟩
  have q:O++j++([((⟨a.block,a.off,0,0⟩,some as.flatten):Ent)]++post)=O++(j++[(⟨a.block,a.off,0,0⟩,some as.flatten)])++post:=by simp [List.append_assoc]
  obtain ⟨v1,r1,o1⟩:=hg O ([(⟨a.block,a.off,0,0⟩,some as.flatten)]++post) hp
  rw [q] at v1 r1 o1
  generalize hes:O++(j++[((⟨a.block,a.off,0,0⟩,some as.flatten):Ent)])++post=es at v1 r1 o1 ⊢
  have ac:es[l0+j.length]? =some (⟨a.block,a.off,0,0⟩,some as.flatten):=by
   rw [←hes,←q,←hp,←List.length_append,List.getElem?_append_right (Nat.le_refl _)];simp
  have J: ∀x∈as,x.length=ks.length:=λx hx=>(r1 x hx).len
  refine ⟨.cons ?_ .nil,?_,λe he=> ?_⟩
  ·refine .slx (m:=⟨a.block,a.off,0,0⟩) 0 len cap a V.1 hl (by simp [Qf8,ac]) (.inl ?_)
   cases a;simp at E;subst E;rfl
  ·unfold RepL
   refine ⟨_,[],rfl,?_,rfl⟩
   unfold QgP
   have aa:(as.take len).length=len:=by rw [List.length_take];omega
   refine ⟨as.take len,?_,λa m c h=>by cases h;exact ⟨V,hl⟩,λc hc=>r1 c (List.mem_of_mem_take hc)⟩
   rw [aa]
   refine ⟨_,_,rfl,?_,.inr ⟨_,0,rfl⟩,λ_=>⟨l0+j.length,0,as.flatten,.ro,rfl,by simp [gOf,ac],?_,?_⟩⟩
   ·rw [Zh9 _ (λc hc=>J c (List.mem_of_mem_take hc)),aa]
   ·rw [Zh9 _ J,Nat.zero_add];exact Nat.mul_le_mul_right _ (by omega)
   ·rw [List.drop_zero]
    have e:as.flatten=(as.take len).flatten++(as.drop len).flatten:=by rw [←List.flatten_append,List.take_append_drop]
    have ai:(as.take len).flatten.length=len*ks.length:=by rw [Zh9 _ (λc hc=>J c (List.mem_of_mem_take hc)),aa]
    rw [e,←ai,List.take_left]
  ·rcases List.mem_append.1 he with h|h
   ·exact o1 e h
   ·simp at h;subst h
    intro cs ab
    cases ab
    refine ⟨cells,elem,fz,hh,λi v hv=> ?_⟩
    obtain ⟨v',Q,hr⟩:=v1.get i v hv
    exact ⟨v',ae i v' Q,hr⟩
section
variable {H:Type} {enc:TypeId×Value→H} {w:World} {base:Nat} {held:Bool}
theorem QeE {F:TypeId→Option (List TK)} {cs:List Value}:
  ∀(j:List Field) (at_:Nat) (ks:List TK),JeR P F j at_=some ks→cs.length=at_+ks.length→(∀f∈j,∀k,F f.type=some k→P.cellsOf f.type=k.length→Got w k ((cs.drop f.offset).take (P.cellsOf f.type)))→Got w ks (cs.drop at_)
 | [],at_,ks,h,E,_=>by
  simp [JeR] at h;subst h
  rw [List.drop_eq_nil_of_le (by simpa using Nat.le_of_eq E)];exact Got.nil
 | f::j,at_,ks,h,E,hx=>by
  unfold JeR at h
  split at h
  ·rename_i k1 J I
   split at h
   ·rename_i hc
    obtain ⟨U,Y,rfl⟩:=Option.map_eq_some_iff.1 h
    have J:f.offset=at_:=of_decide_eq_true J
    have hc:P.cellsOf f.type=k1.length:=of_decide_eq_true hc
    have O:=hx f (by simp) k1 I hc
    rw [J,hc] at O
    have Q:=QeE j (at_+k1.length) U Y (by simp at E;omega) (λf V=>hx f (by simp [V]))
    exact Got.split O (by rw [List.drop_drop];exact Q)
   ·cases h
  ·cases h
theorem Zgt {k1:List TK} {cs:List Value}: ∀(n s:Nat),(∀i,s≤i→i<s+n→Got w k1 ((cs.drop (i*k1.length)).take k1.length))→cs.length=(s+n)*k1.length→Got w (List.replicate n k1).flatten (cs.drop (s*k1.length))
 | 0,s,_,j=>by rw [List.drop_eq_nil_of_le (by simpa using Nat.le_of_eq j)];exact Got.nil
 | n+1,s,h,j=>by
  have E:=Zgt n (s+1) (λi I J=>h i (by omega) (by omega)) (by rw [j];congr 1;omega)
  rw [List.replicate_succ,List.flatten_cons]
  refine Got.split (h s (Nat.le_refl _) (by omega)) ?_
  rw [List.drop_drop]
  rw [Nat.add_mul,Nat.one_mul] at E
  exact E
theorem JaW {P:Program} {e:TypeId}: ∀{ds:List (DataW H)} {d:DataW H},d∈ds→ ∀n∈d.weights P e,n∈DataW.weightsAll P e ds
 | x::ds,d,h,n,j=>by
  simp only [DataW.weightsAll,List.mem_append]
  rcases List.mem_cons.1 h with rfl|h
  ·exact .inl j
  ·exact .inr (JaW h n j)
theorem QcR: ∀(d Z:Nat) (t:TypeId) (ks:List TK) (cs:List Value) (x:DataW H×List MemPlace),XdW P d t=some ks→P.cellsOf t=ks.length→(∀n∈x.1.weights P t,n≤reachBytes)→DataW.trod enc P w base (λ_=>true) held Z t cs=some x→Got w ks cs
 | 0,_,t,ks,cs,x,E,_,_,_=>by simp [XdW] at E
 | d+1,Z,t,ks,cs,x,E,hc,hw,hx=>by
  unfold XdW at E
  split at E
  ·rename_i O
   simp at E;subst E
   obtain ⟨b,rfl,_⟩:=DataW.trod_bool O hx
   exact λ_=>⟨[],[.bool b],λ_ _ _=>⟨.cons (.bool b) .nil,⟨_,_,rfl,⟨b,rfl⟩,rfl⟩,by simp⟩⟩
  ·rename_i k O
   simp at E;subst E
   obtain ⟨n,rfl,_,aj⟩:=DataW.trod_int O hx
   exact λ_=>⟨[],[.int k n],λ_ _ _=>⟨.cons (.int k n) .nil,⟨_,_,rfl,⟨n,rfl,aj⟩,rfl⟩,by simp⟩⟩
  ·rename_i fs O
   obtain ⟨xs,n,rfl,J,hl,ak,V⟩:=DataW.trod_struct O hx
   have:=QeE (P:=P) (w:=w) (cs:=cs) (F:=XdW P d) fs.toList 0 ks E (by rw [hl,hc];simp) (λf hf k Q al=>by
    obtain ⟨i,U⟩:=List.getElem?_of_mem hf
    have ac:fs[i]? =some f:=by simpa using U
    have aa:i<fs.size:=(Array.getElem?_eq_some_iff.1 ac).1
    have ab:xs[i]? =some (xs[i]'(by omega)):=List.getElem?_eq_getElem (by omega)
    refine QcR d n f.type k _ (xs[i]'(by omega)) Q al (λm hm=>hw m ?_) (by rw [V i f ac,ab])
    rw [J]
    simp only [DataW.weights,O]
    exact DataW.weights_mem_each (j:=i) (by rw [List.getElem?_map,U];rfl) (by rw [List.getElem?_map,ab];rfl) m hm)
   simpa using this
  ·rename_i len e O
   split at E
   ·rename_i k1 Q
    split at E
    ·rename_i I
     have I:P.cellsOf e=k1.length:=of_decide_eq_true I
     simp at E;subst E
     obtain ⟨xs,m,rfl,J,hl,ak,V⟩:=DataW.trod_array O hx
     have:=Zgt (w:=w) (k1:=k1) (cs:=cs) len 0 (λi _ U=>by
      have Y:=V i (by omega)
      rw [List.getElem?_eq_getElem (by omega)] at Y
      have:=QcR d m e k1 _ _ Q I (λq hq=>hw q (by
       rw [J];simp only [DataW.weights,O]
       exact JaW (List.mem_map.2 ⟨_,List.getElem_mem _,rfl⟩) q hq)) Y
      rw [I] at this
      exact this) (by rw [hl,hc];simp)
     simpa using this
    ·cases E
   ·cases E
  ·rename_i e O
   split at E
   ·rename_i k1 Q
    split at E
    ·rename_i I hz hb
     have I:P.cellsOf e=k1.length:=of_decide_eq_true I
     have hz:0<k1.length:=of_decide_eq_true hz
     obtain ⟨hb,ah⟩:0<P.bytesOf e∧wts k1≤P.bytesOf e:=of_decide_eq_true hb
     simp at E;subst E
     rcases DataW.trod_slice O hx with ⟨rfl,J⟩|⟨a,len,cap,elems,rest,n,rfl,rfl,J,_,hl,_,am,V,ai,_⟩
     ·refine λ_=>⟨[],[.slice none 0 0],λ_ _ _=>⟨.cons .nilslice .nil,⟨_,_,rfl,?_,rfl⟩,by simp⟩⟩
      unfold QgP
      exact ⟨[],Rd.nil _,λa m c h=>by cases h;exact ⟨⟨by decide,by rw [Nat.zero_mul];exact Nat.zero_le _⟩,Nat.le_refl _⟩,by simp⟩
     ·obtain ⟨an,hr⟩:=ai rfl
      have af: ∀n∈(elems.map (·.1)++rest.map (·.1)).flatMap (λd:DataW H=>d.weights P e),n≤reachBytes:=by
       intro q hq
       refine hw q ?_
       rw [J];simp only [DataW.weights,O]
       obtain ⟨y,hy,hq⟩:=List.mem_flatMap.1 hq
       rcases List.mem_append.1 hy with hy|hy
       ·exact List.mem_cons_of_mem _ (List.mem_append.2 (.inl (JaW hy q hq)))
       ·exact List.mem_cons_of_mem _ (List.mem_append.2 (.inr (JaW hy q hq)))
      have ad:cap<LC∧cap*wts k1≤reachBytes:=by
       have Y:=hw ((elems.length+rest.length)*P.bytesOf e) (by rw [J];simp [DataW.weights,O])
       rw [show elems.length+rest.length=cap by omega] at Y
       have h2:cap≤cap*P.bytesOf e:=Nat.le_mul_of_pos_right _ hb
       have h3:=reachBytes_lt
       have:LC=2^62:=by decide
       have h4:cap*wts k1≤cap*P.bytesOf e:=Nat.mul_le_mul_left _ ah
       omega
      have each: ∀i,i<cap→ ∃c,w.cells? base (a.add (i*k1.length)) k1.length=some c∧Got w k1 c:=by
       intro i U
       have: ∃y,(w.cells? base (a.add (i*P.cellsOf e)) (P.cellsOf e)).bind (DataW.trod enc P w base (λ_=>true) held n e)=some y∧y.1∈(elems.map (·.1)++rest.map (·.1)):=by
        by_cases hil:i<len
        ·exact ⟨elems[i]'(by omega),by rw [V i hil,List.getElem?_eq_getElem (by omega)],List.mem_append.2 (.inl (List.mem_map.2 ⟨_,List.getElem_mem _,rfl⟩))⟩
        ·have:=hr (i-len) (by omega)
         rw [show len+(i-len)=i by omega] at this
         exact ⟨rest[i-len]'(by omega),by rw [this,List.getElem?_eq_getElem (by omega)],List.mem_append.2 (.inr (List.mem_map.2 ⟨_,List.getElem_mem _,rfl⟩))⟩
       obtain ⟨y,hy,ae⟩:=this
       obtain ⟨c,Y,h2⟩:=Option.bind_eq_some_iff.1 hy
       rw [I] at Y
       exact ⟨c,Y,QcR d n e k1 c y Q I (λq hq=>af q (List.mem_flatMap.2 ⟨_,ae,hq⟩)) h2⟩
      refine Got.slice (base:=base) (els:=(List.range cap).map λi=>(w.cells? base (a.add (i*k1.length)) k1.length).getD []) hz hl (by simp) ad (λi c U=> ?_)
      rw [List.getElem?_map] at U
      by_cases aa:i<cap
      ·rw [List.getElem?_range aa] at U
       obtain ⟨c',Y,h2⟩:=each i aa
       simp [Y] at U
       subst U
       exact ⟨h2,Y⟩
      ·rw [List.getElem?_eq_none (by simp;omega)] at U
       cases U
    ·cases E
   ·cases E
  ·cases E
end
end
section
open Go.ChangeShapes Go.WideShapes Go.ChangeAt
variable {P:Program}
abbrev AK:=Bool×List TK
def Qil (g:G) (k:AK) (v:Value):Prop:=match k.1 with
 | true=> ∃cs:List Value,v= .agg cs.toArray∧RepL g k.2 cs
 | false=>RepL g k.2 [v]
inductive Qe4 (g:G):List AK→List Value→Prop
 | nil:Qe4 g [] []
 | cons {k:AK} {v:Value} {ks:List AK} {vs:List Value}:Qil g k v→Qe4 g ks vs→Qe4 g (k::ks) (v::vs)
def Qh9 (w:World) (k:AK) (v:Value):Prop:=Got w k.2 v.cells.toList∧match k.1 with
 | true=> ∃xs:Array Value,v= .agg xs
 | false=>v.cells.toList=[v]
inductive Jgn (w:World):List AK→List Value→Prop
 | nil:Jgn w [] []
 | cons {k:AK} {v:Value} {ks:List AK} {vs:List Value}:Qh9 w k v→Jgn w ks vs→Jgn w (k::ks) (v::vs)
theorem Zgm {μ:Mu} {as:List Value} {x:Value} (h:VRs μ as [x]): ∃a,as=[a]∧VR μ a x:=by
 cases h with
 | cons j E=>cases E;exact ⟨_,rfl,j⟩
theorem Qfu {w:World}: ∀{ks:List AK} {vs:List Value},Jgn w ks vs→ ∀l0:Nat,∃(E:List Ent) (O:List Value),∀j post:List Ent,j.length=l0→
  VRs (Qf8 (j++E++post)) O vs∧Qe4 (gOf (j++E++post)) ks O∧ ∀e∈E,Qfo w (Qf8 (j++E++post)) e
 | _,_,.nil,l0=>⟨[],[],λ_ _ _=>⟨.nil,.nil,by simp⟩⟩
 | _,_,.cons (k:=k) (v:=v) hv Q,l0=>by
  obtain ⟨e1,U,h1⟩:=hv.1 l0
  obtain ⟨e2,a2,h2⟩:=Qfu Q (l0+e1.length)
  have I:=hv.2
  refine ⟨e1++e2,(match k.1 with|true=>Value.agg U.toArray|false=>U.headD undef)::a2,λj post hp=> ?_⟩
  obtain ⟨J,r1,Z⟩:=h1 j (e2++post) hp
  obtain ⟨v2,r2,V⟩:=h2 (j++e1) post (by rw [List.length_append,hp])
  have q1:j++e1++(e2++post)=j++(e1++e2)++post:=by simp [List.append_assoc]
  have q2:j++e1++e2++post=j++(e1++e2)++post:=by simp [List.append_assoc]
  rw [q1] at J r1 Z
  rw [q2] at v2 r2 V
  refine ⟨.cons ?_ v2,.cons ?_ r2,λe he=> ?_⟩
  ·cases hb:k.1 with
   | true=>
    rw [hb] at I
    obtain ⟨xs,rfl⟩:=I
    have:xs=xs.toList.toArray:=by simp
    rw [this]
    exact VRs.agg (by simpa [Value.cells] using J)
   | false=>
    rw [hb] at I
    rw [I] at J
    obtain ⟨a,rfl,Y⟩:=Zgm J
    exact Y
  ·unfold Qil
   cases hb:k.1 with
   | true=>exact ⟨U,rfl,r1⟩
   | false=>
    rw [hb] at I
    rw [I] at J
    obtain ⟨a,rfl,Y⟩:=Zgm J
    exact r1
  ·rcases List.mem_append.1 he with h|h
   ·exact Z e h
   ·exact V e h
section
variable {H:Type} {enc:TypeId×Value→H} {w:World} {base:Nat} {held:Bool}
theorem Xim {Q:List TypeId} {ds:List (DataW H)} {j d:Nat} {t:TypeId} {ks:List TK} {b:Bool} {v:Value} {U:DataW H} {p:List MemPlace} (V:XdW P d t=some ks) (hc:P.cellsOf t=ks.length)
  (hb:match b with|true=> ∃xs:Array Value,v= .agg xs|false=>v.cells.toList=[v]) (h:DataW.Trod enc P w base (λ_=>true) held t v U p)
  (O:(DataW.weightsEach P Q ds).all (· ≤reachBytes)=true) (J:Q[j]? =some t) (I:ds[j]? =some U):Qh9 w (b,ks) v:=by
 obtain ⟨E,Z⟩:=h
 refine ⟨QcR d E t ks _ _ V hc (λn Y=> ?_) Z,hb⟩
 have:=List.all_eq_true.1 O n (DataW.weights_mem_each J I n Y)
 simpa using this
end
theorem JfF {v:Value} (h: ∃a len cap,v= .slice a len cap):v.cells.toList=[v]:=by obtain ⟨a,len,cap,rfl⟩:=h;simp [Value.cells]
theorem XeX (hm:P.follows .mixedOrders=true) {X:XT} (hX:Qdz P X) {f:FuncId} {E:Func} {cargs:Array Value} {w:World} {ks:List AK} (hf:P.funcs[f]? =some E) (hb:E.body.isSome=true) (Z:(E.name== "runtime.NumGoroutine")=false)
  (hg:Jgn w ks cargs.toList) (h: ∀(g:G) (n:Nat) (args:List Value),Qe4 g ks args→ ∀K:Cont,(∀g' n',K (.bool true) g' n')→ACalls P X f args g n K):
  Calls P f cargs w λe w'=>e= .returned (.bool true)∧Below w.heap.size w w':=by
 obtain ⟨Q,V,ha⟩:=Qfu hg 0
 obtain ⟨J,U,O⟩:=ha [] [] rfl
 simp only [List.nil_append,List.append_nil] at J U O
 refine Calls.mono (Jdx (ZdM hm) hX hf hb Z (JhA O) J (h _ _ _ U (λv _ _=>v= .bool true) λ_ _=>rfl)) λe w' he=> ?_
 cases e with
 | returned v'=>
  obtain ⟨v,g,n,μ',Y,I,_,_,j⟩:=he
  subst Y
  cases I
  exact ⟨rfl,j⟩
 | panicked c=>exact he.elim
 | outgrown=>exact he.elim
theorem JbK {g:G} {k:IntKind} {ks:List TK} {cs:List Value} (h:RepL g (.i k::ks) cs): ∃a r,cs= .int k a::r∧(Lit.int k a).wf=true∧RepL g ks r:=by
 unfold RepL at h;obtain ⟨v,r,rfl,j,h⟩:=h;unfold QgP at j;obtain ⟨a,rfl,E⟩:=j;exact ⟨a,r,rfl,E,h⟩
theorem Jgo {g:G} {k ks:List TK} {cs:List Value} (h:RepL g (.s k::ks) cs): ∃v r,cs=v::r∧QgP g (.s k) v∧RepL g ks r:=by
 unfold RepL at h;obtain ⟨v,r,rfl,j,h⟩:=h;exact ⟨v,r,rfl,j,h⟩
theorem Jc0 {g:G} {cs:List Value} (h:RepL g [] cs):cs=[]:=by unfold RepL at h;exact h
def SlR {α:Type} (R:G→List Value→α→Prop) (z:Nat) (g:G) (v:Value) (xs:List α):Prop:=
 ∃els:List (List Value),Rd g v z xs.length els.flatten∧els.length=xs.length∧(∀(i:Nat) (c:List Value) (x:α),els[i]? =some c→xs[i]? =some x→c.length=z∧R g c x)
theorem ZdO {α:Type} {R:List Value→α→Prop}: ∀(els:List (List Value)),(∀c∈els,∃x,R c x)→ ∃xs:List α,els.length=xs.length∧ ∀(i:Nat) (c:List Value) (x:α),els[i]? =some c→xs[i]? =some x→R c x
 | [],_=>⟨[],rfl,by simp⟩
 | c::els,h=>by
  obtain ⟨x,hx⟩:=h c (by simp)
  obtain ⟨xs,I,J⟩:=ZdO els (λc hc=>h c (by simp [hc]))
  refine ⟨x::xs,by simp [I],λi O x' j E=> ?_⟩
  cases i with
  | zero=>simp at j E;subst j;subst E;exact hx
  | succ i=>exact J i O x' (by simpa using j) (by simpa using E)
theorem XgI {α:Type} {R:G→List Value→α→Prop} {g:G} {ks:List TK} {v:Value} (j: ∀c,RepL g ks c→ ∃x,R g c x) (h:QgP g (.s ks) v): ∃xs:List α,SlR R ks.length g v xs∧ ∀a m c,v= .slice a m c→c<LC∧m≤c:=by
 unfold QgP at h
 obtain ⟨els,Q,O,J⟩:=h
 obtain ⟨xs,E,U⟩:=ZdO els (λc hc=>j c (J c hc))
 exact ⟨xs,⟨els,by rw [←E];exact Q,E,λi c x I hx=>⟨(J c (List.mem_of_getElem? I)).len,U i c x I hx⟩⟩,λa m c e=>⟨(O a m c e).1.1,(O a m c e).2⟩⟩
theorem Xhh {α:Type} {enc:α→List Value} {g:G} {ks:List TK} {v:Value} (j: ∀c,RepL g ks c→ ∃x,c=enc x) (h:QgP g (.s ks) v): ∃xs:List α,Sl enc ks.length g v xs∧ ∀a m c,v= .slice a m c→c<LC∧m≤c:=by
 obtain ⟨xs,⟨els,E,Q,I⟩,J⟩:=XgI (R:=λ_ c x=>c=enc x) j h
 refine ⟨xs,?_,J⟩
 have:els=xs.map enc:=by
  apply List.ext_getElem?
  intro i
  rw [List.getElem?_map]
  cases hx:xs[i]? with
  | none=>
   have:xs.length≤i:=by simpa using hx
   rw [List.getElem?_eq_none (by omega)];rfl
  | some x=>
   have O:i<xs.length:=by rcases Nat.lt_or_ge i xs.length with h|h;exact h;rw [List.getElem?_eq_none h] at hx;cases hx
   have hc:els[i]? =some (els[i]'(by omega)):=List.getElem?_eq_getElem (by omega)
   rw [hc,(I i _ x hc hx).2];rfl
 subst this
 exact E
end
end Go.Proofs.YtmchcjaomcdbmaaGreat.Abs
