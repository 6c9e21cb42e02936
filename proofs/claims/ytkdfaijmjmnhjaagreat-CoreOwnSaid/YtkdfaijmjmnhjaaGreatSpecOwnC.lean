import Derived.Test.YtkdfaijmjmnhjaaGreatSpecOwnB
/- What the functions come to. -/
set_option linter.all false
set_option linter.deprecated false
namespace Go.Proofs.YtkdfaijmjmnhjaaGreat.Gen
open Go Go.Proofs.YtkdfaijmjmnhjaaGreat.Abs Go.RowKit
variable {g:G} {n:Nat}
structure Stp where
 kind:Int
 core:Int
 line:Int
 word:Int
 val:Int
def QgW (v:Int):Int:=IntKind.i64.wrap (4+IntKind.i64.wrap (v.tmod 2))
def Sys.do (S:Sys) (x:Stp):Sys×Int×Bool×Ms×Int:=
 if x.kind=0 then ((S.load x.core x.line x.word).1,(S.load x.core x.line x.word).2.1,(S.load x.core x.line x.word).2.2,Jl,0) else
 if x.kind=1 then ((S.store x.core x.line x.word x.val).1,0,(S.store x.core x.line x.word x.val).2,Jl,0) else
 if x.kind=2 then ((S.reach x.core x.line).1,0,(S.reach x.core x.line).2,Jl,0) else
 if x.kind=3 then ((S.flush x.core x.line (QgW x.val)).1,0,false,Jl,(S.flush x.core x.line (QgW x.val)).2) else
 if x.kind=4 then ((S.up x.core).1,0,false,Jl,(S.up x.core).2) else
 if x.kind=5 then ((S.answer x.core).1,0,false,Jl,(S.answer x.core).2) else
 if x.kind=6 then ((S.hear x.core).1,0,false,(S.hear x.core).2.1,(S.hear x.core).2.2) else
 if x.kind=7 then ((S.push x.line).1,0,false,Jl,(S.push x.line).2) else
 if x.kind=8 then ((S.evict x.core x.line).1,0,false,Jl,(S.evict x.core x.line).2) else
 if x.kind=9 then ((S.drop x.line).1,0,false,Jl,(S.drop x.line).2) else
 if x.kind=10 then ((S.drain x.line).1,0,false,Jl,(S.drain x.line).2) else
 if x.kind=11 then (S.fail,0,false,Jl,0) else (S,0,false,Jl,0)
theorem Zbt {c:Prop} [Decidable c] {k:Nat} {p q:Sys×Int×Bool×Ms×Int} (h1:p.1.wf k) (h2:q.1.wf k):(if c then p else q).1.wf k:=by
 by_cases h:c
 ·rw [if_pos h];exact h1
 ·rw [if_neg h];exact h2
theorem Sys.wf.do {S:Sys} {k:Nat} (h:S.wf k) (hk:k<100000) (x:Stp):(S.do x).1.wf (k+1):=by
 unfold Sys.do
 refine Zbt (h.load hk _ _ _) (Zbt (h.store hk _ _ _ _) (Zbt (h.reach hk _ _) (Zbt ((h.flush _ _ _).le (by omega)) (Zbt ((h.up _).le (by omega)) (Zbt ((h.answer _).le (by omega)) (Zbt (h.hear hk _) (Zbt ((h.push _).le (by omega)) (Zbt (h.evict hk _ _) (Zbt ((h.drop _).le (by omega)) (Zbt ((h.drain _).le (by omega)) (Zbt (h.fail _) (h.le (by omega)))))))))))))
section
variable {o:Col Cl} {l:Nat} {W:XaS} {S:Sys} {K:Cont}
end
end Go.Proofs.YtkdfaijmjmnhjaaGreat.Gen
namespace Go.Proofs.YtkdfaijmjmnhjaaGreat.Gen
open Go Go.Proofs.YtkdfaijmjmnhjaaGreat.Abs Go.RowKit
variable {g:G} {n:Nat}
def hs (op:Int):ByteArray:=
 if op=1 then ⟨#[65,73]⟩ else if (2≤op∧op≤7)∨op=10∨op=11 then ⟨#[65,66,67]⟩ else if op=8∨op=9∨(18≤op∧op≤20) then ⟨#[65,66,73]⟩
 else if 12≤op∧op≤14 then ⟨#[66,73]⟩ else if op=17 then ⟨#[73]⟩ else if op=21 then ⟨#[65]⟩ else ⟨#[]⟩
def JaT (op:Int) (c:UInt8):Bool:=(hs op).data.toList.any (· ==c)
theorem Jg2 {op:Int} (h0:0≤op) (h1:op≤22):op=0∨op=1∨op=2∨op=3∨op=4∨op=5∨op=6∨op=7∨op=8∨op=9∨op=10∨op=11∨op=12∨op=13∨op=14∨op=15∨op=16∨op=17∨op=18∨op=19∨op=20∨op=21∨op=22:=by omega
set_option maxRecDepth 100000 in
theorem ZgT:Jw Tryz.prog (HT TT) 1000 100 Qm [.int .i64 0] .nil 0 (fun v' _ _=>Qam v' (.string (hs 0)))=true:=by kernel_rfl
set_option maxRecDepth 100000 in
theorem XgM:Jw Tryz.prog (HT TT) 1000 100 Qm [.int .i64 1] .nil 0 (fun v' _ _=>Qam v' (.string (hs 1)))=true:=by kernel_rfl
set_option maxRecDepth 100000 in
theorem Jgw:Jw Tryz.prog (HT TT) 1000 100 Qm [.int .i64 2] .nil 0 (fun v' _ _=>Qam v' (.string (hs 2)))=true:=by kernel_rfl
set_option maxRecDepth 100000 in
theorem Xgw:Jw Tryz.prog (HT TT) 1000 100 Qm [.int .i64 3] .nil 0 (fun v' _ _=>Qam v' (.string (hs 3)))=true:=by kernel_rfl
set_option maxRecDepth 100000 in
theorem Xgz:Jw Tryz.prog (HT TT) 1000 100 Qm [.int .i64 4] .nil 0 (fun v' _ _=>Qam v' (.string (hs 4)))=true:=by kernel_rfl
set_option maxRecDepth 100000 in
theorem QgO:Jw Tryz.prog (HT TT) 1000 100 Qm [.int .i64 5] .nil 0 (fun v' _ _=>Qam v' (.string (hs 5)))=true:=by kernel_rfl
set_option maxRecDepth 100000 in
theorem QgI:Jw Tryz.prog (HT TT) 1000 100 Qm [.int .i64 6] .nil 0 (fun v' _ _=>Qam v' (.string (hs 6)))=true:=by kernel_rfl
set_option maxRecDepth 100000 in
theorem Zgx:Jw Tryz.prog (HT TT) 1000 100 Qm [.int .i64 7] .nil 0 (fun v' _ _=>Qam v' (.string (hs 7)))=true:=by kernel_rfl
set_option maxRecDepth 100000 in
theorem QgR:Jw Tryz.prog (HT TT) 1000 100 Qm [.int .i64 8] .nil 0 (fun v' _ _=>Qam v' (.string (hs 8)))=true:=by kernel_rfl
set_option maxRecDepth 100000 in
theorem ZgH:Jw Tryz.prog (HT TT) 1000 100 Qm [.int .i64 9] .nil 0 (fun v' _ _=>Qam v' (.string (hs 9)))=true:=by kernel_rfl
set_option maxRecDepth 100000 in
theorem Zgi:Jw Tryz.prog (HT TT) 1000 100 Qm [.int .i64 10] .nil 0 (fun v' _ _=>Qam v' (.string (hs 10)))=true:=by kernel_rfl
set_option maxRecDepth 100000 in
theorem Xgj:Jw Tryz.prog (HT TT) 1000 100 Qm [.int .i64 11] .nil 0 (fun v' _ _=>Qam v' (.string (hs 11)))=true:=by kernel_rfl
set_option maxRecDepth 100000 in
theorem Zgj:Jw Tryz.prog (HT TT) 1000 100 Qm [.int .i64 12] .nil 0 (fun v' _ _=>Qam v' (.string (hs 12)))=true:=by kernel_rfl
set_option maxRecDepth 100000 in
theorem Qf2:Jw Tryz.prog (HT TT) 1000 100 Qm [.int .i64 13] .nil 0 (fun v' _ _=>Qam v' (.string (hs 13)))=true:=by kernel_rfl
set_option maxRecDepth 100000 in
theorem Qf9:Jw Tryz.prog (HT TT) 1000 100 Qm [.int .i64 14] .nil 0 (fun v' _ _=>Qam v' (.string (hs 14)))=true:=by kernel_rfl
set_option maxRecDepth 100000 in
theorem QfY:Jw Tryz.prog (HT TT) 1000 100 Qm [.int .i64 15] .nil 0 (fun v' _ _=>Qam v' (.string (hs 15)))=true:=by kernel_rfl
set_option maxRecDepth 100000 in
theorem Xf2:Jw Tryz.prog (HT TT) 1000 100 Qm [.int .i64 16] .nil 0 (fun v' _ _=>Qam v' (.string (hs 16)))=true:=by kernel_rfl
set_option maxRecDepth 100000 in
theorem Zgf:Jw Tryz.prog (HT TT) 1000 100 Qm [.int .i64 17] .nil 0 (fun v' _ _=>Qam v' (.string (hs 17)))=true:=by kernel_rfl
set_option maxRecDepth 100000 in
theorem Qf5:Jw Tryz.prog (HT TT) 1000 100 Qm [.int .i64 18] .nil 0 (fun v' _ _=>Qam v' (.string (hs 18)))=true:=by kernel_rfl
set_option maxRecDepth 100000 in
theorem Xga:Jw Tryz.prog (HT TT) 1000 100 Qm [.int .i64 19] .nil 0 (fun v' _ _=>Qam v' (.string (hs 19)))=true:=by kernel_rfl
set_option maxRecDepth 100000 in
theorem Jf3:Jw Tryz.prog (HT TT) 1000 100 Qm [.int .i64 20] .nil 0 (fun v' _ _=>Qam v' (.string (hs 20)))=true:=by kernel_rfl
set_option maxRecDepth 100000 in
theorem ZfY:Jw Tryz.prog (HT TT) 1000 100 Qm [.int .i64 21] .nil 0 (fun v' _ _=>Qam v' (.string (hs 21)))=true:=by kernel_rfl
set_option maxRecDepth 100000 in
theorem Jgi:Jw Tryz.prog (HT TT) 1000 100 Qm [.int .i64 22] .nil 0 (fun v' _ _=>Qam v' (.string (hs 22)))=true:=by kernel_rfl
theorem XfJ {op:Int} (h0:0≤op) (h1:op≤22) {K:Cont} (hK: ∀n',K (.string (hs op)) g n'):AC Qm [.int .i64 op] g n K:=by
 have e:Jw Tryz.prog (HT TT) 1000 100 Qm [.int .i64 op] .nil 0 (fun v' _ _=>Qam v' (.string (hs op)))=true:=by
  rcases Jg2 h0 h1 with rfl|rfl|rfl|rfl|rfl|rfl|rfl|rfl|rfl|rfl|rfl|rfl|rfl|rfl|rfl|rfl|rfl|rfl|rfl|rfl|rfl|rfl|rfl
  ·exact ZgT
  ·exact XgM
  ·exact Jgw
  ·exact Xgw
  ·exact Xgz
  ·exact QgO
  ·exact QgI
  ·exact Zgx
  ·exact QgR
  ·exact ZgH
  ·exact Zgi
  ·exact Xgj
  ·exact Zgj
  ·exact Qf2
  ·exact Qf9
  ·exact QfY
  ·exact Xf2
  ·exact Zgf
  ·exact Qf5
  ·exact Xga
  ·exact Jf3
  ·exact ZfY
  ·exact Jgi
 exact Ze9 (.string (hs _)) 1000 100 (by rfl) (by rfl) e hK
theorem hs7 (op:Int):hs op=⟨#[65,73]⟩∨hs op=⟨#[65,66,67]⟩∨hs op=⟨#[65,66,73]⟩∨hs op=⟨#[66,73]⟩∨hs op=⟨#[73]⟩∨hs op=⟨#[65]⟩∨hs op=⟨#[]⟩:=by
 unfold hs;repeat' split
 all_goals simp
set_option maxRecDepth 100000 in
theorem Qhi {s:ByteArray} {c:UInt8} (hc:c=65∨c=66∨c=67∨c=73) (h:s=⟨#[65,73]⟩∨s=⟨#[65,66,67]⟩∨s=⟨#[65,66,73]⟩∨s=⟨#[66,73]⟩∨s=⟨#[73]⟩∨s=⟨#[65]⟩∨s=⟨#[]⟩) {K:Cont} (hK: ∀n',K (.bool (s.data.toList.any (· ==c))) g n'):
  AC XG [.string s,.string ⟨#[c]⟩] g n K:=by
 rcases hc with rfl|rfl|rfl|rfl<;>rcases h with rfl|rfl|rfl|rfl|rfl|rfl|rfl<;>exact Ze9 (.bool _) 1000 100 (by kernel_rfl) (by kernel_rfl) (by kernel_rfl) hK
theorem XcL {op:Int} {c:UInt8} (hc:c=65∨c=66∨c=67∨c=73) {K:Cont} (hK: ∀n',K (.bool (JaT op c)) g n'):AC XG [.string (hs op),.string ⟨#[c]⟩] g n K:=Qhi hc (hs7 op) hK
set_option maxRecDepth 100000 in
theorem JaK {op:Int} (h0:0≤op) (h1:op≤22) {c:UInt8} (hc:c=65∨c=66∨c=67∨c=73) {K:Cont} (hK: ∀n',K (.bool (JaT op c)) g n'):AC Qs [.int .i64 op,.int .u8 c.toNat] g n K:=by
 rcases hc with rfl|rfl|rfl|rfl<;>rcases Jg2 h0 h1 with rfl|rfl|rfl|rfl|rfl|rfl|rfl|rfl|rfl|rfl|rfl|rfl|rfl|rfl|rfl|rfl|rfl|rfl|rfl|rfl|rfl|rfl|rfl<;>
  exact Ze9 (.bool (JaT _ _)) 1000 100 (by kernel_rfl) (by kernel_rfl) (by kernel_rfl) hK
end Go.Proofs.YtkdfaijmjmnhjaaGreat.Gen
namespace Go.Proofs.YtkdfaijmjmnhjaaGreat.Gen
open Go Go.Proofs.YtkdfaijmjmnhjaaGreat.Abs Go.RowKit
variable {g:G} {n:Nat}
structure Ins where
 op:Int
 a:Int
 b:Int
 c:Int
 imm:Int
 deriving DecidableEq
def encI (i:Ins):List Value:=[.int .i64 i.op,.int .i64 i.a,.int .i64 i.b,.int .i64 i.c,.int .i64 i.imm]
theorem XZ (i:Ins):(encI i).length=5:=rfl
theorem JbB (i:Ins): ∀v∈encI i,isCell v=true:=by simp [encI,isCell]
theorem ldI {l:Nat} {x:Ins} {bk:BK} {K:List Value→Prop} (h:g l=some (.cells (encI x) bk)) (k:K (encI x)):Zo g l 0 5 K:=by
 refine XA h (by rw [XZ];decide) ?_
 rw [List.drop_zero,List.take_of_length_le (by rw [XZ];exact Nat.le_refl _)];exact k
def Xaf (n:Int) (h:Bool):Bool:=decide (n=0)||(h&&(decide (0<n)&&decide (n<8)))
def Za7 (i:Ins):Bool:=if JaT i.op 73 then decide (-2147483648≤i.imm)&&(decide (i.imm≤2147483647)&&(decide (0≤i.imm)|| !decide (17≤i.op∧i.op≤20))) else decide (i.imm=0)
def Xz (i:Ins):Bool:=Xaf i.a (JaT i.op 65)&&(Xaf i.b (JaT i.op 66)&&(Xaf i.c (JaT i.op 67)&&Za7 i))
theorem XdI {op:Int} {K:Cont} (hK: ∀n',K (.bool (decide (0≤op∧op≤22))) g n'):AC Jcp [.int .i64 op] g n K:=by
 refine ACalls.fold Xb ?_
 rw [←Zfu]
 simp only [Qgs,Xy,Xbk]
 by_cases h:0≤op
 ·refine Jd (by simp [h]) (Ja (Sub.refl _) ?_)
  have e:decide (op≤22)=decide (0≤op∧op≤22):=by simp [h]
  rw [e];exact hK _
 ·refine Zc (by simp;omega) (Ja (Sub.refl _) ?_)
  have e:false=decide (0≤op∧op≤22):=by simp [h]
  rw [e];exact hK _
theorem JeT {op:Int} {K:Cont} (hK: ∀n',K (.bool (decide (17≤op∧op≤20))) g n'):AC JbM [.int .i64 op] g n K:=by
 refine ACalls.fold Xb ?_
 rw [←QdY]
 simp only [Jd1,Xy,Xbk]
 by_cases h:17≤op
 ·refine Jd (by simp [h]) (Ja (Sub.refl _) ?_)
  have e:decide (op≤20)=decide (17≤op∧op≤20):=by simp [h]
  rw [e];exact hK _
 ·refine Zc (by simp;omega) (Ja (Sub.refl _) ?_)
  have e:false=decide (17≤op∧op≤20):=by simp [h]
  rw [e];exact hK _
theorem Zbh {x:Int} {b:Bool} {K:Cont} (hK: ∀n',K (.bool (Xaf x b)) g n'):AC Qah [.int .i64 x,.bool b] g n K:=by
 refine ACalls.fold Xb ?_
 rw [←JcR]
 simp only [XcE,Qq,Ja2,Jk]
 by_cases h:x=0
 ·refine Jd (by simp [h]) (Ja (Sub.refl _) ?_)
  have e:true=Xaf x b:=by simp [Xaf,h]
  rw [e];exact hK _
 ·refine Zc (by simp [h]) ?_
  cases b with
  | false=>
   refine Zc rfl (Ja (Sub.refl _) ?_)
   have e:false=Xaf x false:=by simp [Xaf,h]
   rw [e];exact hK _
  | true=>
   refine Jd rfl ?_
   by_cases h1:0<x
   ·refine Jd (by simp [h1]) (Ja (Sub.refl _) ?_)
    have e:decide (x<8)=Xaf x true:=by simp [Xaf,h,h1]
    rw [e];exact hK _
   ·refine Zc (by simp;omega) (Ja (Sub.refl _) ?_)
    have e:false=Xaf x true:=by simp [Xaf,h,h1]
    rw [e];exact hK _
theorem Xc5 {x:Int} {K:Cont} (hK: ∀n',K (.bool (decide (0≤x∧x≤7))) g n'):AC ZP [.int .i64 x] g n K:=by
 refine ACalls.fold Xb ?_
 rw [←Zb5]
 simp only [Xbr,Xy,Xbk]
 by_cases h:0≤x
 ·refine Jd (by simp [h]) (Ja (Sub.refl _) ?_)
  have e:decide (x≤7)=decide (0≤x∧x≤7):=by simp [h]
  rw [e];exact hK _
 ·refine Zc (by simp;omega) (Ja (Sub.refl _) ?_)
  have e:false=decide (0≤x∧x≤7):=by simp [h]
  rw [e];exact hK _
theorem Xfe {i:Ins} (h0:0≤i.op) (h1:i.op≤22) {K:Cont} (hK: ∀g' n',Sub g g'→K (.bool (Xz i)) g' n'):AC Jbp [.agg (encI i).toArray] g n K:=by
 refine ACalls.fold Xb ?_
 rw [←Jc8]
 simp only [XdL,Xe]
 intro hn
 have hu:Sub g (upd g n (some (.cells (encI i) .exact))):=(Sub.refl g).new hn _
 have hb:upd g n (some (.cells (encI i) .exact)) n=some (.cells (encI i) .exact):=Xa _ _ _
 generalize upd g n (some (.cells (encI i) .exact))=g1 at hu hb
 have j1: ∀(t:Env) (m:Nat) (b:Bool),t 7= .bool b→t 3= .string (hs i.op)→t 1=ptr n 0→(b=true→Xz i=false)→(b=false→Xz i=Za7 i)→Xas AC K t g1 m:=by
  intro t m b t7 t3 t1 hb1 hb0
  simp only [Xas,t7,t3]
  cases b with
  | true=>
   refine Jd rfl (Ja hu ?_)
   rw [←hb1 rfl];exact hK _ _ (Sub.refl g)
  | false=>
   refine Zc rfl (XcL (c:=73) (.inr (.inr (.inr rfl))) fun n1=> ?_)
   rw [ZH]
   have e:=hb0 rfl
   by_cases hI:JaT i.op 73=true
   ·refine Zc (by simp [hI]) ?_
    have p1:puts t [(31,.string (hs i.op)),(32,.bool (JaT i.op 73)),(33,.bool !JaT i.op 73),(30,.bool !JaT i.op 73)] 1=ptr n 0:=t1
    simp only [JcZ,p1,Zb,Nat.zero_add]
    refine Qb hb rfl ?_
    simp only [Xy]
    by_cases q1: -2147483648≤i.imm
    ·refine Jd (by simpa using q1) (Qb hb rfl ?_)
     simp only [Xbk]
     by_cases q2:i.imm≤2147483647
     ·refine Jd (by simpa using q2) (Qb hb rfl ?_)
      simp only [Xy]
      by_cases q3:0≤i.imm
      ·refine Jd (by simpa using q3) (Ja hu ?_)
       have e2:Xz i=true:=by rw [e];simp [Za7,hI,q1,q2,q3]
       rw [←e2];exact hK _ _ (Sub.refl g)
      ·refine Zc (by simpa using q3) (Qb hb rfl (JeT fun n2=> ?_))
       rw [ZH]
       refine Ja hu ?_
       have e2:Xz i= !decide (17≤i.op∧i.op≤20):=by rw [e];simp [Za7,hI,q1,q2,q3]
       rw [←e2];exact hK _ _ (Sub.refl g)
     ·refine Zc (by simpa using q2) (Ja hu ?_)
      have e2:Xz i=false:=by rw [e];simp [Za7,hI,q2]
      rw [←e2];exact hK _ _ (Sub.refl g)
    ·refine Zc (by simpa using q1) (Ja hu ?_)
     have e2:Xz i=false:=by rw [e];simp [Za7,hI,q1]
     rw [←e2];exact hK _ _ (Sub.refl g)
   ·refine Jd (by simp [hI]) ?_
    simp only [t1,Zb,Nat.zero_add]
    refine Qb hb rfl ?_
    simp only [Qq]
    refine Ja hu ?_
    have e2:Xz i=decide (i.imm=0):=by rw [e];simp [Za7,hI]
    rw [←e2];exact hK _ _ (Sub.refl g)
 refine Qb hb rfl (XfJ h0 h1 fun n1=> ?_)
 refine Qb hb rfl (XdI fun n2=> ?_)
 have hin:decide (0≤i.op∧i.op≤22)=true:=by simp [h0,h1]
 rw [hin,ZH]
 refine Zc rfl (Qb hb rfl (XcL (c:=65) (.inl rfl) fun n3=>⟨rfl,Zbh fun n4=> ?_⟩))
 rw [ZH]
 by_cases r1:Xaf i.a (JaT i.op 65)=true
 ·refine Zc (by simp [r1]) (Qb hb rfl (XcL (c:=66) (.inr (.inl rfl)) fun n5=>⟨rfl,Zbh fun n6=> ?_⟩))
  rw [ZH]
  by_cases r2:Xaf i.b (JaT i.op 66)=true
  ·refine Zc (by simp [r2]) (Qb hb rfl (XcL (c:=67) (.inr (.inr (.inl rfl))) fun n7=>⟨rfl,Zbh fun n8=> ?_⟩))
   rw [ZH]
   refine j1 _ _ (!Xaf i.c (JaT i.op 67)) rfl rfl rfl (fun h=> ?_) (fun h=> ?_)
   ·simp at h;simp [Xz,h]
   ·simp at h;simp [Xz,r1,r2,h]
  ·refine Jd (by simp [r2]) (j1 _ _ (!Xaf i.b (JaT i.op 66)) rfl rfl rfl (fun h=> ?_) (fun h=> ?_))
   ·simp at h;simp [Xz,h]
   ·simp [r2] at h
 ·refine Jd (by simp [r1]) (j1 _ _ (!Xaf i.a (JaT i.op 65)) rfl rfl rfl (fun h=> ?_) (fun h=> ?_))
  ·simp at h;simp [Xz,h]
  ·simp [r1] at h
end Go.Proofs.YtkdfaijmjmnhjaaGreat.Gen
namespace Go.Proofs.YtkdfaijmjmnhjaaGreat.Gen
open Go Go.Proofs.YtkdfaijmjmnhjaaGreat.Abs Go.RowKit
variable {g:G} {n:Nat}
def OrS (t:Env) (p q:Nat) (x:Bool):Prop:=(t p= .bool true∧x=true)∨(t p= .bool false∧t q= .bool x)
def AndS (t:Env) (p q:Nat) (x:Bool):Prop:=(t p= .bool true∧t q= .bool x)∨(t p= .bool false∧x=false)
theorem OrS.go {t:Env} {p q:Nat} {x:Bool} {A B:Bool→Prop} (h:OrS t p q x) (hA:x=true→ ∀b,A b) (hB:x=false→ ∀b,B b):Xbe (t p) fun b=>Qa (bif b then (.bool true) else (t q)) (A b) (B b):=by
 rcases h with ⟨h1,h2⟩|⟨h1,h2⟩
 ·rw [h1];exact hA h2 _
 ·rw [h1];show Qa (t q) _ _;rw [h2];cases x with
  | true=>exact hA rfl _
  | false=>exact hB rfl _
theorem AndS.go {t:Env} {p q:Nat} {x:Bool} {A B:Bool→Prop} (h:AndS t p q x) (hA:x=true→ ∀b,A b) (hB:x=false→ ∀b,B b):Xbe (t p) fun b=>Qa (bif b then (t q) else (.bool false)) (A b) (B b):=by
 rcases h with ⟨h1,h2⟩|⟨h1,h2⟩
 ·rw [h1];show Qa (t q) _ _;rw [h2];cases x with
  | true=>exact hA rfl _
  | false=>exact hB rfl _
 ·rw [h1];exact hB h2 _
section
variable {i:Ins} {K:Cont} {l:Nat} {t:Env} {m:Nat}
abbrev IH (g:G) (l:Nat) (i:Ins):Prop:=g l=some (.cells (encI i) .exact)
theorem rG8 (hb:IH g l i) (hK: ∀m,K (.bool (Xz i)) g m) {x j:Bool} (h1:AndS t 104 107 x) (h3:t 3= .bool j) (tl:t 1=ptr l 0) (hg:Xz i=(x&&(!j||decide (0≤i.imm)))):XD AC K t g m:=by
 simp only [XD]
 refine h1.go (fun hx _=> ?_) (fun hx _=> ?_)
 ·rw [h3,ZH]
  cases j with
  | false=>
   refine Jd rfl (Ja (Sub.refl _) ?_)
   have e:true=Xz i:=by rw [hg,hx];rfl
   rw [e];exact hK _
  | true=>
   refine Zc rfl ?_
   rw [tl,Zb]
   refine Qb hb rfl ?_
   simp only [Xy]
   refine Ja (Sub.refl _) ?_
   have e:decide (0≤i.imm)=Xz i:=by rw [hg,hx];rfl
   rw [e];exact hK _
 ·refine Ja (Sub.refl _) ?_
  have e:false=Xz i:=by rw [hg,hx];rfl
  rw [e];exact hK _
theorem rG7 (hb:IH g l i) (hK: ∀m,K (.bool (Xz i)) g m) {x:Bool} (h1:OrS t 91 94 x) (tl:t 1=ptr l 0)
  (hg:Xz i=((decide (-2147483648≤i.imm)&&decide (i.imm<2147483648))&&(!(x||decide (i.op=20))||decide (0≤i.imm)))):QY AC K t g m:=by
 simp only [QY]
 refine h1.go (fun hx _=> ?_) (fun hx _=> ?_)
 ·rw [tl,Zb]
  refine Qb hb rfl ?_
  simp only [Xy]
  by_cases q: -2147483648≤i.imm
  ·refine Jd (by simpa using q) ?_
   rw [Zb]
   refine Qb hb rfl ?_
   simp only [Jk]
   exact rG8 hb hK (x:=decide (i.imm<2147483648)) (.inl ⟨rfl,rfl⟩) (j:=true) rfl tl (by rw [hg,hx];simp [q])
  ·exact Zc (by simpa using q) (rG8 hb hK (x:=false) (.inr ⟨rfl,rfl⟩) (j:=true) rfl tl (by rw [hg];simp [q]))
 ·rw [tl,Zb]
  refine Qb hb rfl ?_
  simp only [Qq,Zb]
  refine Qb hb rfl ?_
  simp only [Xy]
  by_cases q: -2147483648≤i.imm
  ·refine Jd (by simpa using q) ?_
   refine Qb hb rfl ?_
   simp only [Jk]
   exact rG8 hb hK (x:=decide (i.imm<2147483648)) (.inl ⟨rfl,rfl⟩) (j:=decide (i.op=20)) rfl tl (by rw [hg,hx];simp [q])
  ·exact Zc (by simpa using q) (rG8 hb hK (x:=false) (.inr ⟨rfl,rfl⟩) (j:=decide (i.op=20)) rfl tl (by rw [hg];simp [q]))
theorem rG6 (hb:IH g l i) (hK: ∀m,K (.bool (Xz i)) g m) {x:Bool} (h1:OrS t 86 89 x) (tl:t 1=ptr l 0)
  (hg:Xz i=((decide (-2147483648≤i.imm)&&decide (i.imm<2147483648))&&(!((x||decide (i.op=19))||decide (i.op=20))||decide (0≤i.imm)))):QD AC K t g m:=by
 simp only [QD]
 refine h1.go (fun hx _=> ?_) (fun hx _=> ?_)
 ·exact rG7 hb hK (x:=true) (.inl ⟨rfl,rfl⟩) tl (by rw [hg,hx];rfl)
 ·rw [tl,Zb]
  refine Qb hb rfl ?_
  simp only [Qq]
  exact rG7 hb hK (x:=decide (i.op=19)) (.inr ⟨rfl,rfl⟩) tl (by rw [hg,hx,Bool.false_or])
theorem XeF (i:Ins) (h:JaT i.op 73=true):Za7 i=((decide (-2147483648≤i.imm)&&decide (i.imm<2147483648))&&(!(((decide (i.op=17)||decide (i.op=18))||decide (i.op=19))||decide (i.op=20))||decide (0≤i.imm))):=by
 unfold Za7;rw [if_pos h,Bool.eq_iff_iff]
 simp only [Bool.and_eq_true,Bool.or_eq_true,Bool.not_eq_true',decide_eq_true_eq,decide_eq_false_iff_not,Bool.or_eq_false_iff]
 omega
theorem rG5 (hb:IH g l i) (h0:0≤i.op) (h22:i.op≤22) (hK: ∀m,K (.bool (Xz i)) g m) {x:Bool} (h1:OrS t 54 63 x) (tl:t 1=ptr l 0)
  (hx1:x=true→Xz i=false) (hx0:x=false→Xz i=((JaT i.op 67||decide (i.c=0))&&Za7 i)):ZL AC K t g m:=by
 simp only [ZL]
 refine h1.go (fun hx _=> ?_) (fun hx _=> ?_)
 ·refine Ja (Sub.refl _) ?_
  rw [←hx1 hx];exact hK _
 ·have hg:=hx0 hx
  rw [tl,Zb]
  refine Qb hb rfl (JaK h0 h22 (c:=67) (.inr (.inr (.inl rfl))) fun n1=> ?_)
  rw [ZH]
  by_cases hc:JaT i.op 67=true
  ·refine Zc (by simp [hc]) ?_
   simp only [hc,Bool.true_or,Bool.true_and] at hg
   rw [Zb]
   refine Qb hb rfl (JaK h0 h22 (c:=73) (.inr (.inr (.inr rfl))) fun n2=> ?_)
   rw [ZH]
   by_cases hI:JaT i.op 73=true
   ·refine Zc (by simp [hI]) ?_
    rw [XeF i hI] at hg
    rw [Zb]
    refine Qb hb rfl ?_
    simp only [Qq]
    by_cases q:i.op=17
    ·exact Jd (by simpa using q) (rG6 hb hK (x:=true) (.inl ⟨rfl,rfl⟩) tl (by rw [hg];simp [q]))
    ·refine Zc (by simpa using q) ?_
     rw [Zb]
     refine Qb hb rfl ?_
     simp only [Qq]
     exact rG6 hb hK (x:=decide (i.op=18)) (.inr ⟨rfl,rfl⟩) tl (by rw [hg];simp [q])
   ·refine Jd (by simp [hI]) ?_
    rw [Zb]
    refine Qb hb rfl ?_
    simp only [Qq]
    refine Ja (Sub.refl _) ?_
    have e:decide (i.imm=0)=Xz i:=by rw [hg];simp [Za7,hI]
    rw [e];exact hK _
  ·refine Jd (by simp [hc]) ?_
   have hc':JaT i.op 67=false:=by simpa using hc
   simp only [hc',Bool.false_or] at hg
   rw [Zb]
   refine Qb hb rfl ?_
   simp only [Xad]
   by_cases qc:i.c=0
   ·refine Zc (by simpa using qc) ?_
    simp only [qc,decide_true,Bool.true_and] at hg
    rw [Zb]
    refine Qb hb rfl (JaK h0 h22 (c:=73) (.inr (.inr (.inr rfl))) fun n2=> ?_)
    rw [ZH]
    by_cases hI:JaT i.op 73=true
    ·refine Zc (by simp [hI]) ?_
     rw [XeF i hI] at hg
     rw [Zb]
     refine Qb hb rfl ?_
     simp only [Qq]
     by_cases q:i.op=17
     ·exact Jd (by simpa using q) (rG6 hb hK (x:=true) (.inl ⟨rfl,rfl⟩) tl (by rw [hg];simp [q]))
     ·refine Zc (by simpa using q) ?_
      rw [Zb]
      refine Qb hb rfl ?_
      simp only [Qq]
      exact rG6 hb hK (x:=decide (i.op=18)) (.inr ⟨rfl,rfl⟩) tl (by rw [hg];simp [q])
    ·refine Jd (by simp [hI]) ?_
     rw [Zb]
     refine Qb hb rfl ?_
     simp only [Qq]
     refine Ja (Sub.refl _) ?_
     have e:decide (i.imm=0)=Xz i:=by rw [hg];simp [Za7,hI]
     rw [e];exact hK _
   ·refine Jd (by simpa using qc) (Ja (Sub.refl _) ?_)
    have e:false=Xz i:=by rw [hg];simp [qc]
    rw [e];exact hK _
theorem XdC (x:Int) (h:Bool):(!Xaf x h)=((h&& !decide (0≤x∧x≤7))||(!h&&decide (x≠0))):=by
 unfold Xaf;cases h<;>rw [Bool.eq_iff_iff]<;>simp<;>omega
theorem rG4 (hb:IH g l i) (h0:0≤i.op) (h22:i.op≤22) (hK: ∀m,K (.bool (Xz i)) g m) {x:Bool} (h1:OrS t 43 52 x) (tl:t 1=ptr l 0)
  (hx1:x=true→Xz i=false) (hx0:x=false→Xz i=(Xaf i.c (JaT i.op 67)&&Za7 i)):JK AC K t g m:=by
 simp only [JK]
 refine h1.go (fun hx _=> ?_) (fun hx _=> ?_)
 ·exact rG5 hb h0 h22 hK (x:=true) (.inl ⟨rfl,rfl⟩) tl (fun _=>hx1 hx) (fun h=>by cases h)
 ·have hg:=hx0 hx
  have er:=XdC i.c (JaT i.op 67)
  rw [tl,Zb]
  refine Qb hb rfl (JaK h0 h22 (c:=67) (.inr (.inr (.inl rfl))) fun n1=> ?_)
  by_cases hc:JaT i.op 67=true
  ·refine Jd hc ?_
   rw [Zb]
   refine Qb hb rfl (Xc5 fun n2=> ?_)
   rw [ZH]
   refine rG5 hb h0 h22 hK (x:= !decide (0≤i.c∧i.c≤7)) (.inr ⟨rfl,rfl⟩) tl (fun h=> ?_) (fun h=> ?_)
   ·rw [hc] at er;simp only [Bool.true_and,Bool.not_true,Bool.false_and,Bool.or_false] at er
    rw [h] at er;rw [hg,hc];simp at er;simp [er]
   ·rw [hc] at er;simp only [Bool.true_and,Bool.not_true,Bool.false_and,Bool.or_false] at er
    rw [h] at er;rw [hg,hc];simp at er;simp [er]
  ·have hc':JaT i.op 67=false:=by simpa using hc
   refine Zc hc' ?_
   refine rG5 hb h0 h22 hK (x:=false) (.inr ⟨rfl,rfl⟩) tl (fun h=>by cases h) (fun _=> ?_)
   rw [hg,hc']
   have:Xaf i.c false=decide (i.c=0):=by simp [Xaf]
   rw [this,Bool.false_or]
theorem rG3 (hb:IH g l i) (h0:0≤i.op) (h22:i.op≤22) (hK: ∀m,K (.bool (Xz i)) g m) {x:Bool} (h1:OrS t 32 41 x) (tl:t 1=ptr l 0)
  (hx1:x=true→Xz i=false) (hx0:x=false→Xz i=((JaT i.op 66||decide (i.b=0))&&(Xaf i.c (JaT i.op 67)&&Za7 i))):JL AC K t g m:=by
 simp only [JL]
 refine h1.go (fun hx _=> ?_) (fun hx _=> ?_)
 ·exact rG4 hb h0 h22 hK (x:=true) (.inl ⟨rfl,rfl⟩) tl (fun _=>hx1 hx) (fun h=>by cases h)
 ·have hg:=hx0 hx
  rw [tl,Zb]
  refine Qb hb rfl (JaK h0 h22 (c:=66) (.inr (.inl rfl)) fun n1=> ?_)
  rw [ZH]
  by_cases hc:JaT i.op 66=true
  ·refine Zc (by simp [hc]) (rG4 hb h0 h22 hK (x:=false) (.inr ⟨rfl,rfl⟩) tl (fun h=>by cases h) (fun _=> ?_))
   rw [hg,hc];rfl
  ·have hc':JaT i.op 66=false:=by simpa using hc
   refine Jd (by simp [hc']) ?_
   rw [Zb]
   refine Qb hb rfl ?_
   simp only [Xad]
   refine rG4 hb h0 h22 hK (x:=decide (i.b≠0)) (.inr ⟨rfl,rfl⟩) tl (fun h=> ?_) (fun h=> ?_)
   ·simp at h;rw [hg,hc'];simp [h]
   ·simp at h;rw [hg,hc'];simp [h]
theorem rG2 (hb:IH g l i) (h0:0≤i.op) (h22:i.op≤22) (hK: ∀m,K (.bool (Xz i)) g m) {x:Bool} (h1:OrS t 21 30 x) (tl:t 1=ptr l 0)
  (hx1:x=true→Xz i=false) (hx0:x=false→Xz i=(Xaf i.b (JaT i.op 66)&&(Xaf i.c (JaT i.op 67)&&Za7 i))):QL AC K t g m:=by
 simp only [QL]
 refine h1.go (fun hx _=> ?_) (fun hx _=> ?_)
 ·exact rG3 hb h0 h22 hK (x:=true) (.inl ⟨rfl,rfl⟩) tl (fun _=>hx1 hx) (fun h=>by cases h)
 ·have hg:=hx0 hx
  have er:=XdC i.b (JaT i.op 66)
  rw [tl,Zb]
  refine Qb hb rfl (JaK h0 h22 (c:=66) (.inr (.inl rfl)) fun n1=> ?_)
  by_cases hc:JaT i.op 66=true
  ·refine Jd hc ?_
   rw [Zb]
   refine Qb hb rfl (Xc5 fun n2=> ?_)
   rw [ZH]
   refine rG3 hb h0 h22 hK (x:= !decide (0≤i.b∧i.b≤7)) (.inr ⟨rfl,rfl⟩) tl (fun h=> ?_) (fun h=> ?_)
   ·rw [hc] at er;simp only [Bool.true_and,Bool.not_true,Bool.false_and,Bool.or_false] at er
    rw [h] at er;rw [hg,hc];simp at er;simp [er]
   ·rw [hc] at er;simp only [Bool.true_and,Bool.not_true,Bool.false_and,Bool.or_false] at er
    rw [h] at er;rw [hg,hc];simp at er;simp [er]
  ·have hc':JaT i.op 66=false:=by simpa using hc
   refine Zc hc' ?_
   refine rG3 hb h0 h22 hK (x:=false) (.inr ⟨rfl,rfl⟩) tl (fun h=>by cases h) (fun _=> ?_)
   rw [hg,hc']
   have:Xaf i.b false=decide (i.b=0):=by simp [Xaf]
   rw [this,Bool.false_or]
theorem rG1 (hb:IH g l i) (h0:0≤i.op) (h22:i.op≤22) (hK: ∀m,K (.bool (Xz i)) g m) {x:Bool} (h1:AndS t 15 19 x) (tl:t 1=ptr l 0)
  (hx1:x=true→Xz i=false) (hx0:x=false→Xz i=((JaT i.op 65||decide (i.a=0))&&(Xaf i.b (JaT i.op 66)&&(Xaf i.c (JaT i.op 67)&&Za7 i)))):QZ AC K t g m:=by
 simp only [QZ]
 refine h1.go (fun hx _=> ?_) (fun hx _=> ?_)
 ·exact rG2 hb h0 h22 hK (x:=true) (.inl ⟨rfl,rfl⟩) tl (fun _=>hx1 hx) (fun h=>by cases h)
 ·have hg:=hx0 hx
  rw [tl,Zb]
  refine Qb hb rfl (JaK h0 h22 (c:=65) (.inl rfl) fun n1=> ?_)
  rw [ZH]
  by_cases hc:JaT i.op 65=true
  ·refine Zc (by simp [hc]) (rG2 hb h0 h22 hK (x:=false) (.inr ⟨rfl,rfl⟩) tl (fun h=>by cases h) (fun _=> ?_))
   rw [hg,hc];rfl
  ·have hc':JaT i.op 65=false:=by simpa using hc
   refine Jd (by simp [hc']) ?_
   rw [Zb]
   refine Qb hb rfl ?_
   simp only [Xad]
   refine rG2 hb h0 h22 hK (x:=decide (i.a≠0)) (.inr ⟨rfl,rfl⟩) tl (fun h=> ?_) (fun h=> ?_)
   ·simp at h;rw [hg,hc'];simp [h]
   ·simp at h;rw [hg,hc'];simp [h]
end
theorem Je4 {i:Ins} (h0:0≤i.op) (h1:i.op≤22) {K:Cont} (hK: ∀g' n',Sub g g'→K (.bool (Xz i)) g' n'):AC Qal [.agg (encI i).toArray] g n K:=by
 refine ACalls.fold Xb ?_
 rw [←JbR]
 simp only [Jbe,Xe]
 intro hn
 have hu:Sub g (upd g n (some (.cells (encI i) .exact))):=(Sub.refl g).new hn _
 have hb:upd g n (some (.cells (encI i) .exact)) n=some (.cells (encI i) .exact):=Xa _ _ _
 generalize upd g n (some (.cells (encI i) .exact))=g1 at hu hb
 have hK1: ∀m,K (.bool (Xz i)) g1 m:=fun m=>hK _ _ hu
 have er:=XdC i.a (JaT i.op 65)
 refine Qb hb rfl ?_
 simp only [Jk]
 refine Zc (by simpa using h0) (Qb hb rfl ?_)
 simp only [Ja2]
 refine Zc (by simpa using h1) (Qb hb rfl (JaK h0 h1 (c:=65) (.inl rfl) fun n1=> ?_))
 by_cases hc:JaT i.op 65=true
 ·refine Jd hc (Qb hb rfl (Xc5 fun n2=> ?_))
  rw [ZH]
  refine rG1 hb h0 h1 hK1 (x:= !decide (0≤i.a∧i.a≤7)) (.inl ⟨rfl,rfl⟩) rfl (fun h=> ?_) (fun h=> ?_)
  ·rw [hc] at er;simp only [Bool.true_and,Bool.not_true,Bool.false_and,Bool.or_false] at er
   rw [h] at er;simp at er;simp [Xz,hc,er]
  ·rw [hc] at er;simp only [Bool.true_and,Bool.not_true,Bool.false_and,Bool.or_false] at er
   rw [h] at er;simp at er;simp [Xz,hc,er]
 ·have hc':JaT i.op 65=false:=by simpa using hc
  refine Zc hc' (rG1 hb h0 h1 hK1 (x:=false) (.inr ⟨rfl,rfl⟩) rfl (fun h=>by cases h) (fun _=> ?_))
  have:Xaf i.a false=decide (i.a=0):=by simp [Xaf]
  simp [Xz,hc',this]
end Go.Proofs.YtkdfaijmjmnhjaaGreat.Gen
namespace Go.Proofs.YtkdfaijmjmnhjaaGreat.Gen
open Go Go.Proofs.YtkdfaijmjmnhjaaGreat.Abs Go.RowKit
variable {g:G} {n:Nat}
def Qc9 (i:Ins):Int:=i.op+i.a*256+i.b*4096+i.c*65536+(i.imm%4294967296)*4294967296
def Zat (i:Ins):Int×Int:=if Xz i then (Qc9 i,0) else (0,11)
theorem Xa3 {i:Ins} (h:Xz i=true):(0≤i.a∧i.a≤7)∧(0≤i.b∧i.b≤7)∧(0≤i.c∧i.c≤7)∧ -2147483648≤i.imm∧i.imm≤2147483647:=by
 have r: ∀x b,Xaf x b=true→0≤x∧x≤7:=by
  intro x b h;unfold Xaf at h;cases b<;>simp at h<;>omega
 unfold Xz at h
 simp only [Bool.and_eq_true] at h
 obtain ⟨h1,h2,h3,h4⟩:=h
 refine ⟨r _ _ h1,r _ _ h2,r _ _ h3,?_⟩
 unfold Za7 at h4
 split at h4
 ·simp only [Bool.and_eq_true,decide_eq_true_eq] at h4;omega
 ·simp only [decide_eq_true_eq] at h4;omega
theorem Jdf {x:Int} (h0:0≤x) (h1:x<18446744073709551616):IntKind.u64.wrap x=x:=IntWalk.u64_in x ⟨h0,by omega⟩
theorem Xgd {x s:Int} {K:Value→Prop} (hs:0≤s) (kk:K (.int .u64 (IntKind.u64.wrap (x*2^(min s.toNat 64))))):Jb .int .shl (.int .u64 x) (.int .u64 s) K:=⟨trivial,hs,kk⟩
theorem Jhi (x:Int):IntKind.u64.wrap (IntKind.u64.wrap x*4294967296)=x%4294967296*4294967296:=by
 have w: ∀x,IntKind.u64.wrap x=x%18446744073709551616:=fun x=>rfl
 rw [w,w];omega
theorem XdY {i:Ins} (h0:0≤i.op) (h1:i.op≤22) {K:Cont} (hK: ∀g' n',Sub g g'→K (.tuple #[.int .u64 (Zat i).1,.int .i64 (Zat i).2]) g' n'):AC Zac [.agg (encI i).toArray] g n K:=by
 refine ACalls.fold Xb ?_
 rw [←Zbz]
 simp only [XaV,Xe]
 intro hn
 have hu:Sub g (upd g n (some (.cells (encI i) .exact))):=(Sub.refl g).new hn _
 have hb:upd g n (some (.cells (encI i) .exact)) n=some (.cells (encI i) .exact):=Xa _ _ _
 generalize upd g n (some (.cells (encI i) .exact))=g1 at hu hb
 refine ldI hb (Je4 h0 h1 fun g2 n2 hs2=> ?_)
 have hb2:=hs2.live hb
 rw [ZH]
 by_cases hG:Xz i=true
 ·refine Zc (by simp [hG]) ?_
  obtain ⟨ha,hbb,hc,hi⟩:=Xa3 hG
  have j: ∀(t:Env) (m:Nat),t 1=ptr n 0→t 4= .int .i64 (i.imm%4294967296)→ZS AC K t g2 m:=by
   intro t m t1 t4
   simp only [ZS,t1,t4,Zb,Nat.zero_add]
   refine Qb hb2 rfl ?_
   rw [Zax]
   refine Qb hb2 rfl ?_
   rw [Zax]
   refine Xgd (by decide) ?_
   rw [Jdf h0 (by omega),Jdf ha.1 (by omega),show (2:Int)^(min (8:Int).toNat 64)=256 from rfl,Jdf (x:=i.a*256) (by omega) (by omega),Jh,Jdf (x:=i.op+i.a*256) (by omega) (by omega)]
   refine Qb hb2 rfl ?_
   rw [Zax]
   refine Xgd (by decide) ?_
   rw [Jdf hbb.1 (by omega),show (2:Int)^(min (12:Int).toNat 64)=4096 from rfl,Jdf (x:=i.b*4096) (by omega) (by omega),Jh,Jdf (x:=i.op+i.a*256+i.b*4096) (by omega) (by omega)]
   refine Qb hb2 rfl ?_
   rw [Zax]
   refine Xgd (by decide) ?_
   rw [Jdf hc.1 (by omega),show (2:Int)^(min (16:Int).toNat 64)=65536 from rfl,Jdf (x:=i.c*65536) (by omega) (by omega),Jh,Jdf (x:=i.op+i.a*256+i.b*4096+i.c*65536) (by omega) (by omega),Zax]
   refine Xgd (by decide) ?_
   rw [show (2:Int)^(min (32:Int).toNat 64)=4294967296 from rfl,Jhi,Int.emod_emod_of_dvd _ (Int.dvd_refl _),Jh,Jdf (x:=i.op+i.a*256+i.b*4096+i.c*65536+i.imm%4294967296*4294967296) (by omega) (by omega)]
   refine Ja (hu.trans hs2) ?_
   have e:Zat i=(Qc9 i,0):=by unfold Zat;rw [if_pos hG]
   have:=hK _ m (Sub.refl g)
   rw [e] at this
   exact this
  refine Qb hb2 rfl ?_
  rw [Jk]
  by_cases hneg:i.imm<0
  ·refine Jd (by simpa using hneg) ?_
   rw [Jh,Jf (by omega) (by omega)]
   refine j _ _ rfl ?_
   show Value.int .i64 (i.imm+4294967296)=_
   congr 1;omega
  ·refine Zc (by simpa using hneg) (j _ _ rfl ?_)
   show Value.int .i64 i.imm=_
   congr 1;omega
 ·refine Jd (by simp [hG]) (Ja (hu.trans hs2) ?_)
  have e:Zat i=(0,11):=by unfold Zat;rw [if_neg hG]
  have:=hK _ n2 (Sub.refl g)
  rw [e] at this
  exact this
end Go.Proofs.YtkdfaijmjmnhjaaGreat.Gen
namespace Go.Proofs.YtkdfaijmjmnhjaaGreat.Gen
open Go Go.Proofs.YtkdfaijmjmnhjaaGreat.Abs Go.RowKit
structure SE where
 kind:Int
 line:Int
 word:Int
 val:Int
 sent:Bool
def Zj (e:SE):List Value:=[.int .i64 e.kind,.int .i64 e.line,.int .i64 e.word,.int .u64 e.val,.bool e.sent]
theorem Jz (e:SE):(Zj e).length=5:=rfl
theorem QbO (e:SE): ∀v∈Zj e,isCell v=true:=by simp [Zj,isCell]
def Zm:SE:=⟨0,0,0,0,false⟩
def SE.good (e:SE):Bool:=decide (0≤e.line∧e.line<64∧0≤e.word∧e.word<8∧e.sent=false∧(e.kind=9∨((e.kind=12∨e.kind=13∨e.kind=14)∧e.word=0∧e.val=0)))
def Qeu (line word:Int) (e:SE):Bool:=decide (e.kind=9∧e.line=line∧e.word=word)
def Xbz (b:List SE) (line word:Int):Option Int:=(b.reverse.find? (Qeu line word)).map (·.val)
structure Evt where
 kind:Int
 core:Int
 line:Int
 word:Int
 val:Int
 deriving DecidableEq
def JaM (e:Evt):List Value:=[.int .i64 e.kind,.int .i64 e.core,.int .i64 e.line,.int .i64 e.word,.int .u64 e.val]
theorem ZY (e:Evt):(JaM e).length=5:=rfl
theorem Xck (e:Evt): ∀v∈JaM e,isCell v=true:=by simp [JaM,isCell]
structure Cr where
 id:Int
 room:Int
 r:List Int
 place:Int
 us:List Int
 b:List SE
 waits:Int
 runs:Bool
def Xec (u:Int):Ins:=⟨u%256,u/256%16,u/4096%16,u/65536%16,IntKind.i64.wrap u/4294967296⟩
def decode (u:Int):Option Ins:=if u%4294967296/1048576=0∧(Xec u).op≤22∧Xz (Xec u)=true then some (Xec u) else none
def addrOf (L addr:Int):Option (Int×Int):=if addr%8=0∧addr<L*64 then some (addr/64,addr%64/8) else none
def JgQ (b imm:Int):Int:=IntKind.u64.wrap (b+IntKind.u64.wrap imm)
def Cr.reg (C:Cr) (k:Int):Int:=C.r[k.toNat]?.getD 0
def Cr.setR (C:Cr) (k v:Int):Cr:={ C with r:=C.r.set k.toNat v }
def Cr.next (C:Cr):Cr:={ C with place:=C.place+1 }
def Cr.at (C:Cr) (L:Int) (i:Ins):Option (Int×Int):=addrOf L (JgQ (C.reg i.b) i.imm)
def Cr.ev (C:Cr) (kind line word val:Int):Evt:=⟨kind,C.id,line,word,val⟩
def Cr.still (C:Cr):Bool:=C.b.isEmpty&&decide (C.waits=0)
abbrev Res:=Cr×Sys×List Evt
def Cr.trap (C:Cr) (S:Sys):Res:=({ C with runs:=false },S,[C.ev 10 0 0 0])
def Cr.loadX (C:Cr) (S:Sys) (i:Ins):Res:=match C.at S.c.lines i with
 | none=>C.trap S
 | some (l,w)=>match Xbz C.b l w with
  | some v=>((C.setR i.a v).next,S,[C.ev 2 l w v])
  | none=>if (S.load C.id l w).2.2 then ((C.setR i.a (S.load C.id l w).2.1).next,(S.load C.id l w).1,[C.ev 1 l w (S.load C.id l w).2.1]) else (C,(S.load C.id l w).1,[])
def Cr.entry (C:Cr) (i:Ins) (l w:Int):SE:=if i.op=9 then ⟨9,l,w,C.reg i.a,false⟩ else ⟨i.op,l,0,0,false⟩
def Cr.putX (C:Cr) (S:Sys) (i:Ins):Res:=match C.at S.c.lines i with
 | none=>C.trap S
 | some (l,w)=>if C.room≤C.b.length then (C,S,[]) else
  ({ C with b:=C.b++[C.entry i l w] }.next,S,[if i.op=9 then C.ev 12 l w (C.reg i.a) else C.ev 14 l 0 0])
def Cr.fenceX (C:Cr) (S:Sys):Res:=if C.still then (C.next,S,[C.ev 7 0 0 0]) else (C,S,[])
def Cr.lockX (C:Cr) (S:Sys) (i:Ins):Res:=match C.at S.c.lines i with
 | none=>C.trap S
 | some (l,w)=>if C.still=false then (C,S,[]) else if (S.reach C.id l).2=false then (C,(S.reach C.id l).1,[]) else
  if i.op=11 then
   ((C.setR i.a ((S.reach C.id l).1.load C.id l w).2.1).next,(((S.reach C.id l).1.load C.id l w).1.store C.id l w (IntKind.u64.wrap (((S.reach C.id l).1.load C.id l w).2.1+C.reg i.c))).1,
    [C.ev 4 l w ((S.reach C.id l).1.load C.id l w).2.1,C.ev 3 l w (IntKind.u64.wrap (((S.reach C.id l).1.load C.id l w).2.1+C.reg i.c))])
  else if ((S.reach C.id l).1.load C.id l w).2.1=C.reg i.a then
   ((C.setR i.a ((S.reach C.id l).1.load C.id l w).2.1).next,(((S.reach C.id l).1.load C.id l w).1.store C.id l w (C.reg i.c)).1,
    [C.ev 4 l w ((S.reach C.id l).1.load C.id l w).2.1,C.ev 3 l w (C.reg i.c)])
  else ((C.setR i.a ((S.reach C.id l).1.load C.id l w).2.1).next,((S.reach C.id l).1.load C.id l w).1,[C.ev 4 l w ((S.reach C.id l).1.load C.id l w).2.1])
def JgU (op b c:Int):Int:=
 if op=2 then IntKind.u64.wrap (b+c) else if op=3 then IntKind.u64.wrap (b-c)
 else if op=4 then IntKind.u64.wrap (BitVec.ofInt 64 b &&& BitVec.ofInt 64 c).toNat else if op=5 then IntKind.u64.wrap (BitVec.ofInt 64 b ^^^ BitVec.ofInt 64 c).toNat
 else if op=6 then IntKind.u64.wrap (b*2^(min (c.tmod 64).toNat 64)) else b.fdiv (2^(min (c.tmod 64).toNat 64))
def ZdE (op a b:Int):Bool:=if op=17 then true else if op=18 then decide (a=b) else if op=19 then decide (a≠b) else if op=20 then decide (a<b) else false
def Cr.reckonX (C:Cr) (i:Ins):Cr:=
 if 2≤i.op∧i.op≤7 then (C.setR i.a (JgU i.op (C.reg i.b) (C.reg i.c))).next
 else if ZdE i.op (C.reg i.a) (C.reg i.b) then { C with place:=i.imm } else C.next
def Cr.doX (C:Cr) (S:Sys) (i:Ins):Res:=
 if i.op=0 then (C.next,S,[]) else if i.op=1 then ((C.setR i.a (IntKind.u64.wrap i.imm)).next,S,[]) else if i.op=8 then C.loadX S i
 else if i.op=9∨i.op=12∨i.op=13∨i.op=14 then C.putX S i else if i.op=15∨i.op=16 then C.fenceX S else if i.op=10∨i.op=11 then C.lockX S i
 else if i.op=21 then (C.next,S,[C.ev 8 0 0 (C.reg i.a)]) else if i.op=22 then ({ C with runs:=false },S,[C.ev 9 0 0 0]) else (C.reckonX i,S,[])
def Cr.exec (C:Cr) (S:Sys):Res:=if C.runs=false then (C,S,[]) else match C.us[C.place.toNat]? with
 | none=>C.trap S
 | some u=>match decode u with
  | none=>C.trap S
  | some i=>C.doX S i
def Cr.flushX (C:Cr) (S:Sys) (line kind:Int):Res×Bool:=
 if 16≤C.waits then ((C,S,[]),false) else if (S.flush C.id line kind).2≠0 then ((C,(S.flush C.id line kind).1,[]),false)
 else (({ C with waits:=C.waits+1 },(S.flush C.id line kind).1,[C.ev 13 line 0 0]),true)
def Cr.pop (C:Cr):Cr:={ C with b:=C.b.tail }
def Cr.drain (C:Cr) (S:Sys):Res:=match C.b with
 | []=>(C,S,[])
 | e::t=>
  if e.kind=9 then (if (S.store C.id e.line e.word e.val).2 then (C.pop,(S.store C.id e.line e.word e.val).1,[C.ev 3 e.line e.word e.val]) else (C,(S.store C.id e.line e.word e.val).1,[]))
  else if e.kind=12 then (if (C.flushX S e.line 4).2 then ((C.flushX S e.line 4).1.1.pop,(C.flushX S e.line 4).1.2) else (C.flushX S e.line 4).1)
  else if e.kind=13 then (if (C.flushX S e.line 5).2 then ((C.flushX S e.line 5).1.1.pop,(C.flushX S e.line 5).1.2) else (C.flushX S e.line 5).1)
  else if e.sent then (if C.waits=0 then (C.pop,S,[]) else (C,S,[]))
  else if (C.flushX S e.line 5).2 then ({ (C.flushX S e.line 5).1.1 with b:={ e with sent:=true }::t },(C.flushX S e.line 5).1.2) else (C.flushX S e.line 5).1
def Cr.hear (C:Cr) (m:Ms):Cr×List Evt:=if m.kind=14∧C.waits≠0 then ({ C with waits:=C.waits-1 },[C.ev 6 m.line 0 0]) else (C,[])
def JbI (id room:Int) (us:List Int):Cr:=⟨id,room,[0,0,0,0,0,0,0,0],0,us,[],0,true⟩
structure SE.ok (e:SE):Prop where
 line:0≤e.line∧e.line<64
 word:0≤e.word∧e.word<8
 kind:e.kind=9∨e.kind=12∨e.kind=13∨e.kind=14
structure Cr.ok (C:Cr):Prop where
 r:C.r.length=8
 place:0≤C.place∧C.place≤2147483648
 us:C.us.length≤4096
 u: ∀u∈C.us,0≤u∧u<18446744073709551616
 room:1≤C.room∧C.room≤16
 b:(C.b.length:Int)≤C.room
 e: ∀e∈C.b,e.ok
 waits:0≤C.waits∧C.waits≤16
theorem Qc3 {u:Int} {i:Ins} (h:decode u=some i):i=Xec u∧i.op≤22∧Xz i=true:=by
 unfold decode at h
 split at h
 ·cases h;rename_i h;exact ⟨rfl,h.2⟩
 ·cases h
theorem Qd3 {u:Int} (h0:0≤u):0≤(Xec u).op:=Int.emod_nonneg _ (by decide)
theorem ZeY {L a l w:Int} (h:addrOf L a=some (l,w)) (ha:0≤a):0≤l∧l<L∧0≤w∧w<8:=by
 unfold addrOf at h
 split at h
 ·simp only [Option.some.injEq,Prod.mk.injEq] at h;omega
 ·cases h
theorem Xfq (b imm:Int):0≤JgQ b imm:=by unfold JgQ;exact Int.emod_nonneg _ (by decide)
theorem Cr.at_rng {C:Cr} {L:Int} {i:Ins} {l w:Int} (h:C.at L i=some (l,w)):0≤l∧l<L∧0≤w∧w<8:=ZeY h (Xfq _ _)
end Go.Proofs.YtkdfaijmjmnhjaaGreat.Gen
namespace Go.Proofs.YtkdfaijmjmnhjaaGreat.Gen
open Go Go.Proofs.YtkdfaijmjmnhjaaGreat.Abs Go.RowKit
theorem Cr.ok.setR {C:Cr} (h:C.ok) (k v:Int):(C.setR k v).ok:=⟨by simp [Cr.setR,h.r],h.place,h.us,h.u,h.room,h.b,h.e,h.waits⟩
theorem Cr.ok.next {C:Cr} (h:C.ok) (hp:C.place<4096):C.next.ok:=⟨h.r,by have:=h.place;show 0≤C.place+1∧C.place+1≤2147483648;omega,h.us,h.u,h.room,h.b,h.e,h.waits⟩
theorem Cr.ok.go {C:Cr} (h:C.ok) {p:Int} (hp:0≤p∧p≤2147483648):{ C with place:=p }.ok:=⟨h.r,hp,h.us,h.u,h.room,h.b,h.e,h.waits⟩
theorem Cr.ok.stop {C:Cr} (h:C.ok):{ C with runs:=false }.ok:=⟨h.r,h.place,h.us,h.u,h.room,h.b,h.e,h.waits⟩
theorem Cr.ok.pop {C:Cr} (h:C.ok):C.pop.ok:=⟨h.r,h.place,h.us,h.u,h.room,by have:=h.b;simp only [Cr.pop,List.length_tail];omega,fun e he=>h.e e (List.mem_of_mem_tail he),h.waits⟩
theorem Cr.ok.put {C:Cr} (h:C.ok) {e:SE} (he:e.ok) (hl:(C.b.length:Int)<C.room):{ C with b:=C.b++[e] }.ok:=
 ⟨h.r,h.place,h.us,h.u,h.room,by simp only [List.length_append,List.length_singleton];omega,fun x hx=>by rcases List.mem_append.1 hx with hx|hx;exact h.e x hx;rw [List.mem_singleton] at hx;rw [hx];exact he,h.waits⟩
theorem Cr.ok.wait {C:Cr} (h:C.ok) {w:Int} (hw:0≤w∧w≤16):{ C with waits:=w }.ok:=⟨h.r,h.place,h.us,h.u,h.room,h.b,h.e,hw⟩
theorem Cr.entry_ok {C:Cr} {i:Ins} {l w:Int} (hi:i.op=9∨i.op=12∨i.op=13∨i.op=14) (hl:0≤l∧l<64) (hw:0≤w∧w<8):(C.entry i l w).ok:=by
 unfold Cr.entry
 split
 ·exact ⟨hl,hw,.inl rfl⟩
 ·exact ⟨hl,by show (0:Int)≤0∧(0:Int)<8;decide,by rcases hi with h|h;contradiction;exact .inr h⟩
theorem Cr.entry_good {C:Cr} {i:Ins} {l w:Int} (hi:i.op=9∨i.op=12∨i.op=13∨i.op=14) (hl:0≤l∧l<64) (hw:0≤w∧w<8):(C.entry i l w).good=true:=by
 unfold Cr.entry SE.good
 split
 ·simp;omega
 ·simp;omega
section
variable {C:Cr} {S:Sys} {k:Nat}
theorem Cr.ok.loadX (h:C.ok) (hp:C.place<4096) (i:Ins):(C.loadX S i).1.ok:=by
 unfold Cr.loadX
 split
 ·exact h.stop
 ·split
  ·exact (h.setR _ _).next hp
  ·split
   ·exact (h.setR _ _).next hp
   ·exact h
theorem Cr.ok.putX (h:C.ok) (hp:C.place<4096) (hL:S.c.lines≤64) {i:Ins} (hi:i.op=9∨i.op=12∨i.op=13∨i.op=14):(C.putX S i).1.ok:=by
 unfold Cr.putX
 split
 ·exact h.stop
 ·rename_i l w e
  have:=Cr.at_rng e
  split
  ·exact h
  ·exact (h.put (Cr.entry_ok hi (by omega) (by omega)) (by omega)).next hp
theorem Cr.ok.lockX (h:C.ok) (hp:C.place<4096) (i:Ins):(C.lockX S i).1.ok:=by
 unfold Cr.lockX
 split
 ·exact h.stop
 ·split
  ·exact h
  ·split
   ·exact h
   ·split
    ·exact (h.setR _ _).next hp
    ·split<;>exact (h.setR _ _).next hp
theorem Cr.ok.doX (h:C.ok) (hp:C.place<4096) (hL:S.c.lines≤64) {i:Ins} (hg:Xz i=true):(C.doX S i).1.ok:=by
 unfold Cr.doX
 split
 ·exact h.next hp
 split
 ·exact (h.setR _ _).next hp
 split
 ·exact h.loadX hp i
 split
 ·rename_i hi;exact h.putX hp hL hi
 split
 ·unfold Cr.fenceX
  split
  ·exact h.next hp
  ·exact h
 split
 ·exact h.lockX hp i
 split
 ·exact h.next hp
 split
 ·exact h.stop
 ·show (C.reckonX i).ok
  unfold Cr.reckonX
  split
  ·exact (h.setR _ _).next hp
  ·split
   ·rename_i hgo
    refine h.go ?_
    have hr:=Xa3 hg
    unfold ZdE at hgo
    have ho:17≤i.op∧i.op≤20:=by
     split at hgo;omega
     split at hgo;omega
     split at hgo;omega
     split at hgo;omega
     cases hgo
    have hI:JaT i.op 73=true:=by
     have:i.op=17∨i.op=18∨i.op=19∨i.op=20:=by omega
     rcases this with e|e|e|e<;>rw [e]<;>decide
    have h4:Za7 i=true:=by unfold Xz at hg;simp only [Bool.and_eq_true] at hg;exact hg.2.2.2
    unfold Za7 at h4
    rw [if_pos hI] at h4
    simp only [Bool.and_eq_true,Bool.or_eq_true,decide_eq_true_eq,Bool.not_eq_true',decide_eq_false_iff_not] at h4
    omega
   ·exact h.next hp
theorem Cr.ok.exec (h:C.ok) (hL:S.c.lines≤64):(C.exec S).1.ok:=by
 unfold Cr.exec
 split
 ·exact h
 ·split
  ·exact h.stop
  ·rename_i u e
   have hp:C.place<4096:=by
    have:=(List.getElem?_eq_some_iff.1 e).1
    have:=h.us
    have:=h.place
    omega
   split
   ·exact h.stop
   ·rename_i i hd
    exact h.doX hp hL (Qc3 hd).2.2
theorem Cr.ok.flushX (h:C.ok) (line kind:Int):(C.flushX S line kind).1.1.ok:=by
 unfold Cr.flushX
 split
 ·exact h
 ·split
  ·exact h
  ·have:=h.waits;exact h.wait (by omega)
theorem Cr.ok.sent {e:SE} {t:List SE} {w:Int} (h:C.ok) (hb:C.b=e::t) (hw:0≤w∧w≤16):Cr.ok { C with waits:=w,b:={ e with sent:=true }::t }:=by
 have he:=h.e e (by rw [hb];exact List.mem_cons_self ..)
 refine ⟨h.r,h.place,h.us,h.u,h.room,by have:=h.b;rw [hb] at this;exact this,fun x hx=> ?_,hw⟩
 rcases List.mem_cons.1 hx with rfl|hx
 ·exact ⟨he.line,he.word,he.kind⟩
 ·exact h.e x (by rw [hb];exact List.mem_cons_of_mem _ hx)
theorem QeC (C:Cr) (S:Sys) (line kind:Int): ∃w,(C.flushX S line kind).1.1={ C with waits:=w }:=by
 unfold Cr.flushX
 split
 ·exact ⟨C.waits,rfl⟩
 ·split
  ·exact ⟨C.waits,rfl⟩
  ·exact ⟨C.waits+1,rfl⟩
theorem Cr.ok.drain (h:C.ok):(C.drain S).1.ok:=by
 unfold Cr.drain
 split
 ·exact h
 ·rename_i e t hb
  split
  ·split
   ·exact h.pop
   ·exact h
  split
  ·split
   ·exact (h.flushX _ _).pop
   ·exact h.flushX _ _
  split
  ·split
   ·exact (h.flushX _ _).pop
   ·exact h.flushX _ _
  split
  ·split
   ·exact h.pop
   ·exact h
  ·have hf:=h.flushX (S:=S) e.line 5
   split
   ·obtain ⟨w,hw⟩:=QeC C S e.line 5
    have hw2:=hf.waits
    rw [hw] at hw2 ⊢
    exact h.sent hb hw2
   ·exact hf
theorem Cr.ok.hear (h:C.ok) (m:Ms):(C.hear m).1.ok:=by
 unfold Cr.hear
 split
 ·rename_i hm
  have:=h.waits
  exact h.wait (by omega)
 ·exact h
theorem Xf0 {id room:Int} {us:List Int} (hr:1≤room∧room≤16) (hl:us.length≤4096) (hu: ∀u∈us,0≤u∧u<18446744073709551616):(JbI id room us).ok:=
 ⟨rfl,by show (0:Int)≤0∧(0:Int)≤2147483648;decide,hl,hu,hr,by show ((0:Nat):Int)≤room;omega,fun e he=>(List.not_mem_nil he).elim,by show (0:Int)≤0∧(0:Int)≤16;decide⟩
end
section
variable {C:Cr} {S:Sys} {k:Nat}
theorem Sys.wf.loadX (h:S.wf k) (hk:k<100000) (i:Ins):(C.loadX S i).2.1.wf (k+1):=by
 unfold Cr.loadX
 split
 ·exact h.le (by omega)
 ·split
  ·exact h.le (by omega)
  ·split
   ·exact h.load hk _ _ _
   ·exact h.load hk _ _ _
theorem Sys.wf.putX (h:S.wf k) (i:Ins):(C.putX S i).2.1.wf k:=by
 unfold Cr.putX
 split
 ·exact h
 ·split<;>exact h
theorem Sys.wf.lockX (h:S.wf k) (hk:k+3<100000) (i:Ins):(C.lockX S i).2.1.wf (k+3):=by
 unfold Cr.lockX
 split
 ·exact h.le (by omega)
 ·split
  ·exact h.le (by omega)
  ·split
   ·exact (h.reach (by omega) _ _).le (by omega)
   ·split
    ·exact ((h.reach (by omega) _ _).load (by omega) _ _ _).store (by omega) _ _ _ _
    ·split
     ·exact ((h.reach (by omega) _ _).load (by omega) _ _ _).store (by omega) _ _ _ _
     ·exact ((h.reach (by omega) _ _).load (by omega) _ _ _).le (by omega)
theorem Sys.wf.doX (h:S.wf k) (hk:k+3<100000) (i:Ins):(C.doX S i).2.1.wf (k+3):=by
 have h3:=h.le (show k≤k+3 by omega)
 unfold Cr.doX
 split
 ·exact h3
 split
 ·exact h3
 split
 ·exact (h.loadX (by omega) i).le (by omega)
 split
 ·exact (h.putX i).le (by omega)
 split
 ·unfold Cr.fenceX
  split<;>exact h3
 split
 ·exact h.lockX hk i
 split
 ·exact h3
 split
 ·exact h3
 ·exact h3
theorem Sys.wf.exec (h:S.wf k) (hk:k+3<100000):(C.exec S).2.1.wf (k+3):=by
 have h3:=h.le (show k≤k+3 by omega)
 unfold Cr.exec
 split
 ·exact h3
 ·split
  ·exact h3
  ·split
   ·exact h3
   ·exact h.doX hk _
theorem Sys.wf.flushX (h:S.wf k) (line kind:Int):(C.flushX S line kind).1.2.1.wf k:=by
 unfold Cr.flushX
 split
 ·exact h
 ·split<;>exact h.flush _ _ _
theorem Sys.wf.drainC (h:S.wf k) (hk:k<100000):(C.drain S).2.1.wf (k+1):=by
 have h1:=h.le (show k≤k+1 by omega)
 have hf: ∀l q,(C.flushX S l q).1.2.1.wf (k+1):=fun l q=>(h.flushX l q).le (by omega)
 unfold Cr.drain
 split
 ·exact h1
 ·split
  ·split<;>exact h.store hk _ _ _ _
  split
  ·split<;>exact hf _ _
  split
  ·split<;>exact hf _ _
  split
  ·split<;>exact h1
  ·split<;>exact hf _ _
end
end Go.Proofs.YtkdfaijmjmnhjaaGreat.Gen
namespace Go.Proofs.YtkdfaijmjmnhjaaGreat.Gen
open Go Go.Proofs.YtkdfaijmjmnhjaaGreat.Abs Go.RowKit
def Ln.nn (l:Ln):Prop:= ∀x∈l.1,0≤x
theorem XB:zeroL.nn:=by
 intro x hx
 have h:x=0:=by simpa [zeroL] using hx
 omega
theorem Ln.nn.put {l:Ln} (h:l.nn) (w:Nat) {v:Int} (hv:0≤v):(l.put w v).nn:=by
 intro x hx
 rcases List.mem_or_eq_of_mem_set (show x∈l.1.set w v from hx) with hx|rfl
 ·exact h x hx
 ·exact hv
def Arr.nn (A:Arr):Prop:= ∀s∈A.l,s.data.nn
def MsN (l:List Ms):Prop:= ∀m∈l,m.data.nn
theorem MsN.nil:MsN []:=fun _ h=>nomatch h
theorem MsN.one {m:Ms} (h:m.data.nn):MsN [m]:=fun x hx=>by rcases List.mem_singleton.1 hx with rfl;exact h
theorem MsN.app {a b:List Ms} (h:MsN a) (k:MsN b):MsN (a++b):=fun x hx=>by rcases List.mem_append.1 hx with hx|hx;exact h x hx;exact k x hx
section
variable {A:Arr}
theorem Arr.nn.put {line:Int} {k:Nat} {t:St} (h:A.nn) (ht:t.data.nn):(A.put line k t).nn:=by
 intro s hs
 rcases List.mem_or_eq_of_mem_set (show s∈A.l.set (A.from line+k) t from hs) with hs|rfl
 ·exact h s hs
 ·exact ht
theorem Arr.nn.slotAt (h:A.nn) (line:Int) (k:Nat):(A.slotAt line k).data.nn:=by
 unfold Arr.slotAt
 rw [List.getD_eq_getElem?_getD]
 cases e:A.l[A.from line+k]? with
 | none=>exact XB
 | some s=>exact h s (List.mem_of_getElem? e)
theorem Arr.nn.slot (h:A.nn) (line:Int):(A.slot line).data.nn:=by
 unfold Arr.slot Arr.find
 split
 ·exact XB
 ·exact h.slotAt _ _
theorem Arr.nn.set (h:A.nn) (line state:Int) {d:Ln} (hd:d.nn):(A.set line state d).2.nn:=by
 unfold Arr.set
 split
 ·exact h
 ·split
  ·exact h
  ·exact Arr.nn.put (A:=A.tick) h hd
theorem Arr.nn.touch (h:A.nn) (line:Int):(A.touch line).nn:=by
 unfold Arr.touch
 split
 ·exact h
 ·exact Arr.nn.put (A:=A.tick) h (h.slotAt _ _)
theorem Arr.nn.drop (h:A.nn) (line:Int):(A.drop line).nn:=by
 unfold Arr.drop
 split
 ·exact h
 ·exact Arr.nn.put h XB
theorem Zdo {c:Prop} [Decidable c] {a b:Ln} (ha:a.nn) (hb:b.nn):(if c then a else b).nn:=by split;exact ha;exact hb
theorem Arr.nn.out (h:A.nn) {s:St} (hs:s.data.nn):MsN (A.out s).1∧(A.out s).2.nn:=⟨MsN.one (m:=QgV s) (Zdo hs XB),h.set _ _ hs⟩
theorem Arr.nn.ask (h:A.nn) (line state kind:Int) {d:Ln} (hd:d.nn):MsN (A.ask line state kind d).1∧(A.ask line state kind d).2.nn:=by
 unfold Arr.ask
 split
 ·exact ⟨MsN.nil,h⟩
 ·split
  ·split
   ·exact ⟨MsN.nil,h⟩
   ·exact h.out (h.slot _)
  ·exact ⟨MsN.one XB,h.set _ _ hd⟩
theorem Arr.nn.load (h:A.nn) (line word:Int):MsN (A.load line word).1∧(A.load line word).2.nn:=by
 unfold Arr.load
 split
 ·exact ⟨MsN.nil,h⟩
 ·split
  ·exact ⟨MsN.nil,h.touch _⟩
  ·exact h.ask _ _ _ XB
theorem Arr.nn.reach (h:A.nn) (line:Int):MsN (A.reach line).1∧(A.reach line).2.nn:=by
 unfold Arr.reach
 split
 ·exact ⟨MsN.nil,h⟩
 ·split
  ·exact h.ask _ _ _ (h.slot _)
  ·exact h.ask _ _ _ XB
theorem Arr.nn.store (h:A.nn) (line word:Int) {v:Int} (hv:0≤v):MsN (A.store line word v).1∧(A.store line word v).2.nn:=by
 unfold Arr.store
 split
 ·exact ⟨MsN.nil,h⟩
 ·split
  ·exact h.reach _
  ·exact ⟨MsN.nil,h.set _ _ ((h.slot _).put _ hv)⟩
theorem Zfy (m:Ms) {s:St} (hs:s.data.nn) (next:Int):MsN (Zeg m s next):=by
 unfold Zeg
 split
 ·exact MsN.one (Zdo hs XB)
 ·split
  ·exact MsN.one (Zdo hs XB)
  ·exact MsN.nil
theorem Arr.nn.hear (h:A.nn) {m:Ms} (hm:m.data.nn):MsN (A.hear m).1∧(A.hear m).2.1.nn:=by
 unfold Arr.hear
 split
 ·exact ⟨MsN.nil,h⟩
 ·split
  ·exact ⟨MsN.nil,h⟩
  ·split
   ·exact ⟨MsN.nil,h⟩
   ·split
    ·exact ⟨Zfy _ (h.slot _) _,h.drop _⟩
    ·exact ⟨Zfy _ (h.slot _) _,h.set _ _ (Zdo hm (Zdo XB (h.slot _)))⟩
theorem Arr.nn.evict (h:A.nn) (line:Int):MsN (A.evict line).1∧(A.evict line).2.1.nn:=by
 unfold Arr.evict
 split
 ·exact ⟨MsN.nil,h⟩
 ·split
  ·exact ⟨MsN.nil,h⟩
  ·exact h.out (h.slot _)
theorem Qgv (s w:Nat):(ZeL s w).nn:=by
 intro t ht
 rcases List.mem_replicate.1 (show t∈List.replicate (s*w) ZaJ from ht) with ⟨_,rfl⟩
 exact XB
theorem Arr.nn.loadV (h:A.nn) (line word:Int):0≤A.loadV line word:=by
 unfold Arr.loadV
 split
 ·unfold Qey
  have:=h.slot line
  generalize (A.slot line).data=d at this
  first
  |(rw [List.getD_eq_getElem?_getD]
    cases e:d.1[word.toNat]? with
    | none=>exact Int.le_refl 0
    | some x=>exact this x (List.mem_of_getElem? e))
 ·exact Int.le_refl 0
end
theorem ZdF {q:List Ms} {m:Ms} (h:MsN q) (hm:m.data.nn):MsN (QaK q m).1:=by
 unfold QaK
 split
 ·exact h
 ·split
  ·exact h
  ·exact h.app (MsN.one hm)
theorem Jct: ∀{l q:List Ms},MsN q→MsN l→MsN (JS q l)
 | [],q,h,_=>h
 | m::l,q,h,hl=>Jct (l:=l) (ZdF h (hl m (List.mem_cons_self ..))) (fun x hx=>hl x (List.mem_cons_of_mem _ hx))
def Mov.nn (m:Mov):Prop:=m.e.data.nn∧ ∀s∈m.out,s.m.data.nn
theorem Mov.nn.tell {m:Mov} (h:m.nn) (to kind:Int):(m.tell to kind).nn:=by
 refine ⟨h.1,fun s hs=> ?_⟩
 rcases List.mem_append.1 (show s∈m.out++[⟨to,m.said kind⟩] from hs) with hs|hs
 ·exact h.2 s hs
 ·rcases List.mem_singleton.1 hs with rfl
  exact Zdo h.1 XB
theorem Mov.nn.tells {kind:Int}: ∀{l:List Int} {m:Mov},m.nn→(m.tells kind l).nn
 | [],m,h=>h
 | to::r,m,h=>Mov.nn.tells (l:=r) (h.tell to kind)
theorem Mov.nn.with {m:Mov} (h:m.nn) {e:Ent} (he:e.data.nn):Mov.nn { m with e:=e }:=⟨he,h.2⟩
theorem Mov.nn.wait {m:Mov} (h:m.nn) (busy by_:Int) (cores:XcB) (kind:Int):(m.wait busy by_ cores kind).nn:=Mov.nn.tells (h.with h.1)
theorem Mov.nn.own {m:Mov} (h:m.nn) (by_ kind:Int):(m.own by_ kind).nn:=Mov.nn.tell (h.with h.1) _ _
theorem Mov.nn.read {m:Mov} (h:m.nn) (by_:Int):(m.read by_).nn:=Mov.nn.tell (h.with h.1) _ _
theorem QfC {e:Ent} {x:Ms} (he:e.data.nn) (hx:x.data.nn):(e.take x).data.nn:=by unfold Ent.take;split;exact hx;exact he
theorem Mov.nn.asked {m:Mov} (h:m.nn) (by_:Int) {x:Ms} (hx:x.data.nn):(m.asked by_ x).nn:=by
 unfold Mov.asked
 split
 ·unfold Mov.getS
  split
  ·exact h.wait _ _ _ _
  ·split
   ·exact h.own _ _
   ·exact h.read _
 ·split
  ·unfold Mov.getM
   split
   ·exact h.own _ _
   ·exact h.wait _ _ _ _
  ·split
   ·refine Mov.nn.tell (h.with ?_) _ _
    split
    ·exact QfC (e:={ m.e with owner:= -1 }) h.1 hx
    ·exact h.1
   ·split
    ·exact h.wait _ _ _ _
    ·exact h.wait _ _ _ _
def Xhc (l:List Snd):Prop:= ∀s∈l,s.m.data.nn
theorem Xgu {e:Ent} (he:e.data.nn) (by_:Int) {x:Ms} (hx:x.data.nn):(XbZ e by_ x).1.data.nn∧Xhc (XbZ e by_ x).2.1:=by
 unfold XbZ
 split
 ·exact ⟨XB,fun _ h=>nomatch h⟩
 ·split
  ·exact ⟨XB,fun _ h=>nomatch h⟩
  ·split
   ·exact ⟨XB,fun _ h=>nomatch h⟩
   ·exact Mov.nn.asked (m:=⟨e,x.line,[]⟩) ⟨he,fun _ h=>nomatch h⟩ by_ hx
theorem QfE (e:Ent) (by_:Int) (x:Ms):(e.lose by_ x).data=(Ent.take { e with wait:=e.wait &&& ~~~(XcJ by_) } x).data:=by
 unfold Ent.lose
 simp only
 split<;>split<;>rfl
theorem Jfm {e:Ent} (he:e.data.nn) (by_:Int) {x:Ms} (hx:x.data.nn):(e.lose by_ x).data.nn:=by
 rw [QfE]
 exact QfC (e:={ e with wait:=e.wait &&& ~~~(XcJ by_) }) he hx
theorem Mov.nn.goes {m:Mov} (h:m.nn):m.goes.nn:=by
 unfold Mov.goes
 split
 ·exact Mov.nn.read (m:=m.over) h _
 ·split
  ·exact Mov.nn.own (m:=m.over) h _ _
  ·exact h
theorem Xfa {e:Ent} (he:e.data.nn) (by_:Int) {x:Ms} (hx:x.data.nn):(Qx e by_ x).1.data.nn∧Xhc (Qx e by_ x).2.1:=by
 unfold Qx
 split
 ·exact ⟨XB,fun _ h=>nomatch h⟩
 ·split
  ·exact ⟨XB,fun _ h=>nomatch h⟩
  ·split
   ·exact ⟨Jfm he _ hx,fun _ h=>nomatch h⟩
   ·exact Mov.nn.goes (m:=⟨e.lose by_ x,x.line,[]⟩) ⟨Jfm he _ hx,fun _ h=>nomatch h⟩
theorem QeT {e:Ent} (he:e.data.nn):(QK e).1.data.nn∧Xhc (QK e).2.1:=by
 unfold QK
 split
 ·exact ⟨XB,fun _ h=>nomatch h⟩
 ·exact Mov.nn.tell (m:=Mov.over ⟨{ e with dirty:=false },0,[]⟩) ⟨he,fun _ h=>nomatch h⟩ _ _
structure Nd.nn (N:Nd):Prop where
 A:N.A.nn
 up:MsN N.up
 ans:MsN N.ans
 dn:MsN N.dn
structure Sys.nn (S:Sys):Prop where
 nd: ∀(i:Nat) N,S.nodes[i]? =some N→N.nn
 dir: ∀e∈S.dir,e.data.nn
 q: ∀e∈S.q,e.data.nn
 mem: ∀l∈S.D.mem,l.nn
section
variable {S:Sys}
theorem Sys.nn.setN (h:S.nn) {i:Nat} {N:Nd} (hN:N.nn):(S.setN i N).nn:=by
 refine ⟨fun j M e=> ?_,h.dir,h.q,h.mem⟩
 simp only [Sys.setN] at e
 by_cases hj:i=j
 ·subst hj
  have h1:=Zi e
  rw [List.length_set] at h1
  rw [List.getElem?_set_self h1] at e
  cases e;exact hN
 ·rw [List.getElem?_set_ne hj] at e
  exact h.nd j M e
theorem Sys.nn.setE (h:S.nn) (i:Nat) {e:Ent} (he:e.data.nn):(S.setE i e).nn:=⟨h.nd,fun x hx=>by
 rcases List.mem_or_eq_of_mem_set (show x∈S.dir.set i e from hx) with hx|rfl
 ·exact h.dir x hx
 ·exact he,h.q,h.mem⟩
theorem Sys.nn.ask (h:S.nn) {i:Nat} {N:Nd} (hN:S.nodes[i]? =some N) {A':Arr} {ms:List Ms} (hm:MsN ms∧A'.nn):(S.setN i { N with A:=A',up:=JS N.up ms }).nn:=by
 have hn:=h.nd i N hN
 exact h.setN ⟨hm.2,Jct hn.up hm.1,hn.ans,hn.dn⟩
theorem Sys.nn.load (h:S.nn) (core line word:Int):(S.load core line word).1.nn:=by
 unfold Sys.load
 split
 ·exact h
 ·rename_i i N e
  obtain ⟨_,hN⟩:=Sys.at_some e
  split
  ·exact h
  ·exact h.ask hN ((h.nd i N hN).A.load _ _)
theorem Sys.nn.loadV (h:S.nn) (core line word:Int):0≤(S.load core line word).2.1:=by
 unfold Sys.load
 split
 ·exact Int.le_refl 0
 ·rename_i i N e
  obtain ⟨_,hN⟩:=Sys.at_some e
  split
  ·exact Int.le_refl 0
  ·exact (h.nd i N hN).A.loadV _ _
theorem Sys.nn.store (h:S.nn) (core line word:Int) {v:Int} (hv:0≤v):(S.store core line word v).1.nn:=by
 unfold Sys.store
 split
 ·exact h
 ·rename_i i N e
  obtain ⟨_,hN⟩:=Sys.at_some e
  split
  ·exact h
  ·exact h.ask hN ((h.nd i N hN).A.store _ _ hv)
theorem Sys.nn.reach (h:S.nn) (core line:Int):(S.reach core line).1.nn:=by
 unfold Sys.reach
 split
 ·exact h
 ·rename_i i N e
  obtain ⟨_,hN⟩:=Sys.at_some e
  split
  ·exact h
  ·exact h.ask hN ((h.nd i N hN).A.reach _)
theorem Sys.nn.evict (h:S.nn) (core line:Int):(S.evict core line).1.nn:=by
 unfold Sys.evict
 split
 ·exact h
 ·rename_i i N e
  obtain ⟨_,hN⟩:=Sys.at_some e
  split
  ·exact h
  ·exact h.ask hN ((h.nd i N hN).A.evict _)
theorem Sys.nn.flush (h:S.nn) (core line kind:Int):(S.flush core line kind).1.nn:=by
 unfold Sys.flush
 split
 ·exact h
 ·rename_i i N e
  obtain ⟨_,hN⟩:=Sys.at_some e
  have hn:=h.nd i N hN
  split
  ·exact h
  ·split
   ·exact h
   ·exact h.setN ⟨hn.A,ZdF hn.up XB,hn.ans,hn.dn⟩
theorem Sys.nn.hear (h:S.nn) (core:Int):(S.hear core).1.nn:=by
 unfold Sys.hear
 split
 ·exact h
 ·rename_i i N e
  obtain ⟨_,hN⟩:=Sys.at_some e
  have hn:=h.nd i N hN
  split
  ·exact h
  ·rename_i m r hq
   have hl:=hn.A.hear (hn.dn m (by rw [hq];simp))
   exact h.setN ⟨hl.2,hn.up,Jct hn.ans hl.1,fun x hx=>hn.dn x (by rw [hq];exact List.mem_cons_of_mem _ hx)⟩
theorem Sys.nn.send1 (h:S.nn) (line:Int) {x:Snd} (hx:x.m.data.nn):(S.send1 line x).nn:=by
 unfold Sys.send1
 split
 ·exact h
 ·rename_i i N e
  obtain ⟨_,hN⟩:=Sys.at_some e
  have hn:=h.nd i N hN
  exact h.setN ⟨hn.A,hn.up,hn.ans,ZdF hn.dn hx⟩
theorem Sys.nn.sends {line:Int}: ∀{l:List Snd} {S:Sys},S.nn→Xhc l→(S.sends line l).nn
 | [],S,h,_=>h
 | x::l,S,h,hl=>Sys.nn.sends (l:=l) (h.send1 line (hl x (List.mem_cons_self ..))) (fun y hy=>hl y (List.mem_cons_of_mem _ hy))
theorem Sys.nn.write (h:S.nn) {i:Nat} {e:Ent} (hi:S.dir[i]? =some e):(S.write i e).1.nn:=by
 unfold Sys.write
 split
 ·exact h
 ·refine ⟨h.nd,h.dir,?_,h.mem⟩
  intro x hx
  have hx':x∈(Jbz S.q S.D S.c.queue (i:Nat) e.data).1:=hx
  unfold Jbz at hx'
  split at hx'
  ·exact h.q x hx'
  ·split at hx'
   ·exact h.q x hx'
   ·rcases List.mem_append.1 hx' with hx'|hx'
    ·exact h.q x hx'
    ·rcases List.mem_singleton.1 hx' with rfl
     exact h.dir e (List.mem_of_getElem? hi)
theorem Sys.nn.push (h:S.nn) (line:Int):(S.push line).1.nn:=by
 unfold Sys.push
 split
 ·exact h
 ·rename_i i e he
  obtain ⟨hl,hi⟩:=Sys.ent_some he
  have hp:=QeT (h.dir e (List.mem_of_getElem? hi))
  split
  ·exact h
  ·split
   ·exact h.write hi
   ·split
    ·exact h.write hi
    ·exact Sys.nn.sends ((h.write hi).setE _ hp.1) hp.2
theorem XeP (h:S.nn) (line:Int):(Qdh S.q S.D line).nn:=by
 unfold Qdh newest
 cases e:S.q.reverse.find? (fun e=>decide (e.line=line)) with
 | some x=>exact h.q x (List.mem_reverse.1 (List.mem_of_find?_eq_some e))
 | none=>
  show (S.D.get line).nn
  unfold Dev.get
  split
  ·rw [List.getD_eq_getElem?_getD]
   cases e:S.D.mem[line.toNat]? with
   | none=>exact XB
   | some l=>exact h.mem l (List.mem_of_getElem? e)
  ·exact XB
theorem Qg4 {D:Dev} (h: ∀l∈D.mem,l.nn) (line:Int) {x:Ln} (hx:x.nn): ∀l∈(D.put line x).mem,l.nn:=by
 unfold Dev.put
 split
 ·intro l hl
  rcases List.mem_or_eq_of_mem_set (show l∈D.mem.set line.toNat x from hl) with hl|rfl
  ·exact h l hl
  ·exact hx
 ·exact h
theorem Sys.nn.drain (h:S.nn) (line:Int):(S.drain line).1.nn:=by
 unfold Sys.drain
 split
 ·exact h
 ·unfold JaV
  split
  ·exact h
  ·rename_i j hj
   refine ⟨h.nd,h.dir,fun x hx=>h.q x (List.mem_of_mem_eraseIdx hx),Qg4 h.mem _ ?_⟩
   rw [List.getD_eq_getElem?_getD]
   cases e:S.q[j]? with
   | none=>exact XB
   | some x=>exact h.q x (List.mem_of_getElem? e)
theorem Sys.nn.here (h:S.nn) {i:Nat} {e:Ent} (he:e.data.nn):(S.here i e).nn∧(S.got i e).data.nn:=by
 unfold Sys.here Sys.got
 split
 ·exact ⟨h,he⟩
 ·exact ⟨h.setE _ (XeP h _),XeP h _⟩
theorem Sys.nn.up (h:S.nn) (core:Int):(S.up core).1.nn:=by
 unfold Sys.up
 split
 ·exact h
 ·rename_i i N e
  obtain ⟨_,hN⟩:=Sys.at_some e
  have hn:=h.nd i N hN
  split
  ·exact h
  ·rename_i m r hq
   have hm:=hn.up m (by rw [hq];simp)
   split
   ·exact h
   ·rename_i k e2 he2
    obtain ⟨_,hi⟩:=Sys.ent_some he2
    have hr:MsN r:=fun x hx=>hn.up x (by rw [hq];exact List.mem_cons_of_mem _ hx)
    have hh:=h.here (i:=k) (h.dir e2 (List.mem_of_getElem? hi))
    have ha:=Xgu hh.2 core hm
    split
    ·exact h
    ·split
     ·exact hh.1
     ·exact Sys.nn.sends (Sys.nn.setE (hh.1.setN (N:={ N with up:=r }) ⟨hn.A,hr,hn.ans,hn.dn⟩) _ ha.1) ha.2
theorem Sys.nn.answer (h:S.nn) (core:Int):(S.answer core).1.nn:=by
 unfold Sys.answer
 split
 ·exact h
 ·rename_i i N e
  obtain ⟨_,hN⟩:=Sys.at_some e
  have hn:=h.nd i N hN
  split
  ·exact h
  ·rename_i m r hq
   have hm:=hn.ans m (by rw [hq];simp)
   have h1:(S.setN i { N with ans:=r }).nn:=h.setN ⟨hn.A,hn.up,fun x hx=>hn.ans x (by rw [hq];exact List.mem_cons_of_mem _ hx),hn.dn⟩
   split
   ·exact h
   ·rename_i k e2 he2
    obtain ⟨_,hi⟩:=Sys.ent_some he2
    have ha:=Xfa (h.dir e2 (List.mem_of_getElem? hi)) core hm
    split
    ·exact h1
    ·exact Sys.nn.sends (h1.setE _ ha.1) ha.2
theorem XfO (c:Cfg):(QcE c []).nn:=by
 refine ⟨fun i N hN=> ?_,fun e he=> ?_,(fun e he=>nomatch he),fun l hl=> ?_⟩
 ·have:N=nd0 c:=by
   obtain ⟨_,h⟩:=List.getElem?_eq_some_iff.1 hN
   rw [show (QcE c []).nodes=List.replicate c.cores.toNat (nd0 c) from rfl] at hN
   exact (List.mem_replicate.1 (List.mem_of_getElem? hN)).2
  subst this
  exact ⟨Qgv _ _,MsN.nil,MsN.nil,MsN.nil⟩
 ·rw [(List.mem_replicate.1 (show e∈List.replicate c.lines.toNat XY from he)).2];exact XB
 ·have:l∈List.replicate c.lines.toNat zeroL:=hl
  rw [(List.mem_replicate.1 this).2];exact XB
end
end Go.Proofs.YtkdfaijmjmnhjaaGreat.Gen
namespace Go.Proofs.YtkdfaijmjmnhjaaGreat.Gen
open Go Go.Proofs.YtkdfaijmjmnhjaaGreat.Abs Go.RowKit
structure Cr.nn (C:Cr):Prop where
 r: ∀x∈C.r,0≤x
 b: ∀e∈C.b,0≤e.val
section
variable {C:Cr} {S:Sys}
theorem Cr.nn.reg (h:C.nn) (k:Int):0≤C.reg k:=by
 unfold Cr.reg
 cases e:C.r[k.toNat]? with
 | none=>exact Int.le_refl 0
 | some x=>exact h.r x (List.mem_of_getElem? e)
theorem Cr.nn.setR (h:C.nn) (k:Int) {v:Int} (hv:0≤v):(C.setR k v).nn:=⟨fun x hx=>by
 rcases List.mem_or_eq_of_mem_set (show x∈C.r.set k.toNat v from hx) with hx|rfl
 ·exact h.r x hx
 ·exact hv,h.b⟩
theorem Cr.nn.next (h:C.nn):C.next.nn:=⟨h.r,h.b⟩
theorem Xbn (x:Int):0≤IntKind.u64.wrap x:=Int.emod_nonneg _ (by decide)
theorem Qgy (op:Int) {b:Int} (hb:0≤b) (c:Int):0≤JgU op b c:=by
 unfold JgU
 split
 ·exact Xbn _
 split
 ·exact Xbn _
 split
 ·exact Xbn _
 split
 ·exact Xbn _
 split
 ·exact Xbn _
 ·have h2:(0:Int)≤2^(min (c.tmod 64).toNat 64):=Int.pow_nonneg (by decide)
  rw [Int.fdiv_eq_ediv_of_nonneg _ h2]
  exact Int.ediv_nonneg hb h2
theorem Xf5 {b:List SE} (h: ∀e∈b,0≤e.val) {l w v:Int} (hv:Xbz b l w=some v):0≤v:=by
 unfold Xbz at hv
 cases e:b.reverse.find? (Qeu l w) with
 | none=>rw [e] at hv;cases hv
 | some x=>
  rw [e] at hv
  cases hv
  exact h x (List.mem_reverse.1 (List.mem_of_find?_eq_some e))
theorem Cr.nn.doX (h:C.nn) (hS:S.nn) (i:Ins):(C.doX S i).1.nn∧(C.doX S i).2.1.nn:=by
 unfold Cr.doX
 split
 ·exact ⟨h.next,hS⟩
 split
 ·exact ⟨(h.setR _ (Xbn _)).next,hS⟩
 split
 ·unfold Cr.loadX
  split
  ·exact ⟨⟨h.r,h.b⟩,hS⟩
  ·split
   ·rename_i v hv
    exact ⟨(h.setR _ (Xf5 h.b hv)).next,hS⟩
   ·split
    ·exact ⟨(h.setR _ (hS.loadV _ _ _)).next,hS.load _ _ _⟩
    ·exact ⟨h,hS.load _ _ _⟩
 split
 ·unfold Cr.putX
  split
  ·exact ⟨⟨h.r,h.b⟩,hS⟩
  ·split
   ·exact ⟨h,hS⟩
   ·refine ⟨⟨h.r,fun e he=> ?_⟩,hS⟩
    rcases List.mem_append.1 (show e∈C.b++[C.entry i _ _] from he) with he|he
    ·exact h.b e he
    ·rcases List.mem_singleton.1 he with rfl
     unfold Cr.entry
     split
     ·exact h.reg _
     ·exact Int.le_refl 0
 split
 ·unfold Cr.fenceX
  split
  ·exact ⟨h.next,hS⟩
  ·exact ⟨h,hS⟩
 split
 ·unfold Cr.lockX
  split
  ·exact ⟨⟨h.r,h.b⟩,hS⟩
  ·rename_i l w e0
   have hr:=hS.reach C.id
   split
   ·exact ⟨h,hS⟩
   ·split
    ·exact ⟨h,hr _⟩
    ·have hl:=(hr l).load C.id
     split
     ·exact ⟨(h.setR _ ((hr _).loadV _ _ _)).next,(hl _ _).store _ _ _ (Xbn _)⟩
     ·split
      ·exact ⟨(h.setR _ ((hr _).loadV _ _ _)).next,(hl _ _).store _ _ _ (h.reg _)⟩
      ·exact ⟨(h.setR _ ((hr _).loadV _ _ _)).next,hl _ _⟩
 split
 ·exact ⟨h.next,hS⟩
 split
 ·exact ⟨⟨h.r,h.b⟩,hS⟩
 ·refine ⟨?_,hS⟩
  show (C.reckonX i).nn
  unfold Cr.reckonX
  split
  ·exact (h.setR _ (Qgy _ (h.reg _) _)).next
  ·split
   ·exact ⟨h.r,h.b⟩
   ·exact h.next
theorem Cr.nn.exec (h:C.nn) (hS:S.nn):(C.exec S).1.nn∧(C.exec S).2.1.nn:=by
 unfold Cr.exec
 split
 ·exact ⟨h,hS⟩
 ·split
  ·exact ⟨⟨h.r,h.b⟩,hS⟩
  ·split
   ·exact ⟨⟨h.r,h.b⟩,hS⟩
   ·exact h.doX hS _
theorem Cr.nn.flushX (h:C.nn) (hS:S.nn) (line kind:Int):(C.flushX S line kind).1.1.nn∧(C.flushX S line kind).1.2.1.nn:=by
 unfold Cr.flushX
 split
 ·exact ⟨h,hS⟩
 ·split
  ·exact ⟨h,hS.flush _ _ _⟩
  ·exact ⟨⟨h.r,h.b⟩,hS.flush _ _ _⟩
theorem Cr.nn.pop (h:C.nn):C.pop.nn:=⟨h.r,fun e he=>h.b e (List.mem_of_mem_tail he)⟩
theorem Cr.nn.drain (h:C.nn) (hS:S.nn):(C.drain S).1.nn∧(C.drain S).2.1.nn:=by
 have hf:=h.flushX hS
 unfold Cr.drain
 split
 ·exact ⟨h,hS⟩
 ·rename_i e t hb
  have he:=h.b e (by rw [hb];exact List.mem_cons_self ..)
  split
  ·split
   ·exact ⟨h.pop,hS.store _ _ _ he⟩
   ·exact ⟨h,hS.store _ _ _ he⟩
  split
  ·split
   ·exact ⟨(hf _ _).1.pop,(hf _ _).2⟩
   ·exact hf _ _
  split
  ·split
   ·exact ⟨(hf _ _).1.pop,(hf _ _).2⟩
   ·exact hf _ _
  split
  ·split
   ·exact ⟨h.pop,hS⟩
   ·exact ⟨h,hS⟩
  ·split
   ·refine ⟨⟨(hf _ _).1.r,fun x hx=> ?_⟩,(hf _ _).2⟩
    rcases List.mem_cons.1 hx with rfl|hx
    ·exact he
    ·exact h.b x (by rw [hb];exact List.mem_cons_of_mem _ hx)
   ·exact hf _ _
theorem Cr.nn.hear (h:C.nn) (m:Ms):(C.hear m).1.nn:=by
 unfold Cr.hear
 split
 ·exact ⟨h.r,h.b⟩
 ·exact h
theorem Xf3 (id room:Int) (us:List Int):(JbI id room us).nn:=⟨fun x hx=>by
 have:x=0:=by simpa [JbI] using hx
 omega,fun e he=>(List.not_mem_nil he).elim⟩
end
end Go.Proofs.YtkdfaijmjmnhjaaGreat.Gen
namespace Go.Proofs.YtkdfaijmjmnhjaaGreat.Gen
open Go Go.Proofs.YtkdfaijmjmnhjaaGreat.Abs Go.RowKit
theorem Qht (x:Int):IntKind.i64.wrap x=(if 9223372036854775808≤x%18446744073709551616 then x%18446744073709551616-18446744073709551616 else x%18446744073709551616):=by
 have e:IntKind.i64.wrap x=(if decide (x%18446744073709551616≥9223372036854775808)=true then x%18446744073709551616-18446744073709551616 else x%18446744073709551616):=rfl
 rw [e];simp only [decide_eq_true_eq]
theorem JfZ {i:Ins} (h0:0≤i.op) (h1:i.op≤22) (ha:0≤i.a∧i.a≤7) (hb:0≤i.b∧i.b≤7) (hc:0≤i.c∧i.c≤7):
  (-2147483648≤i.imm∧i.imm≤2147483647→Xec (Qc9 i)=i)∧Qc9 i%4294967296/1048576=0∧0≤Qc9 i∧Qc9 i<18446744073709551616:=by
 obtain ⟨op,a,b,c,imm⟩:=i
 simp only at h0 h1 ha hb hc
 have hh:0≤imm%4294967296∧imm%4294967296<4294967296:=by omega
 have hw:Qc9 ⟨op,a,b,c,imm⟩=op+a*256+b*4096+c*65536+(imm%4294967296)*4294967296:=rfl
 refine ⟨fun hi=> ?_,?_,?_,?_⟩
 ·simp only at hi
  unfold Xec
  rw [Qht,hw]
  congr 1
  ·omega
  ·omega
  ·omega
  ·omega
  ·split<;>omega
 ·rw [hw];omega
 ·rw [hw];omega
 ·rw [hw];omega
theorem Zc2 {i:Ins} (h0:0≤i.op) (h1:i.op≤22) (hg:Xz i=true):decode (Qc9 i)=some i∧0≤Qc9 i∧Qc9 i<18446744073709551616:=by
 obtain ⟨ha,hb,hc,hi⟩:=Xa3 hg
 obtain ⟨e1,e2,e3⟩:=JfZ h0 h1 ha hb hc
 refine ⟨?_,e3⟩
 unfold decode
 rw [e1 hi,if_pos ⟨e2,h1,hg⟩]
def Sys.pd (S:Sys) (k:Int):Sys:=((S.push k).1.drain k).1
def pd6 (S:Sys):Sys:=(((((S.pd 0).pd 1).pd 2).pd 3).pd 4).pd 5
def Zez (C:Cr) (H:Sys×Ms×Int) (l:List Evt):Res:=((C.hear H.2.1).1,pd6 H.1,l++(C.hear H.2.1).2)
def XeE (D:Res) (l:List Evt):Res:=Zez D.1 (((D.2.1.up 0).1.answer 0).1.hear 0) (l++D.2.2)
def JeC (E:Res):Res:=XeE (E.1.drain E.2.1) E.2.2
def Xfm (C:Cr) (S:Sys):Res:=JeC (C.exec S)
def Qaw (l:List Evt):List Int:=(l.filter (fun e=>decide (e.kind=8))).map (·.val)
structure CSok (C:Cr) (S:Sys) (k:Nat):Prop where
 ok:C.ok
 cn:C.nn
 wf:S.wf k
 sn:S.nn
section
variable {C:Cr} {S:Sys} {k:Nat}
theorem CSok.lines (h:CSok C S k):S.c.lines≤64:=by have:=h.wf.c.lines;omega
theorem CSok.exec (h:CSok C S k) (hk:k+3<100000):CSok (C.exec S).1 (C.exec S).2.1 (k+3):=⟨h.ok.exec h.lines,(h.cn.exec h.sn).1,h.wf.exec hk,(h.cn.exec h.sn).2⟩
theorem CSok.drain (h:CSok C S k) (hk:k<100000):CSok (C.drain S).1 (C.drain S).2.1 (k+1):=⟨h.ok.drain,(h.cn.drain h.sn).1,h.wf.drainC hk,(h.cn.drain h.sn).2⟩
theorem CSok.up (h:CSok C S k) (i:Int):CSok C (S.up i).1 k:=⟨h.ok,h.cn,h.wf.up i,h.sn.up i⟩
theorem CSok.answer (h:CSok C S k) (i:Int):CSok C (S.answer i).1 k:=⟨h.ok,h.cn,h.wf.answer i,h.sn.answer i⟩
theorem CSok.hear (h:CSok C S k) (hk:k<100000) (i:Int):CSok C (S.hear i).1 (k+1):=⟨h.ok,h.cn,h.wf.hear hk i,h.sn.hear i⟩
theorem CSok.hearC (h:CSok C S k) (m:Ms):CSok (C.hear m).1 S k:=⟨h.ok.hear m,h.cn.hear m,h.wf,h.sn⟩
theorem CSok.push (h:CSok C S k) (i:Int):CSok C (S.push i).1 k:=⟨h.ok,h.cn,h.wf.push i,h.sn.push i⟩
theorem CSok.drainS (h:CSok C S k) (i:Int):CSok C (S.drain i).1 k:=⟨h.ok,h.cn,h.wf.drain i,h.sn.drain i⟩
theorem CSok.pd (h:CSok C S k) (i:Int):CSok C (S.pd i) k:=(h.push i).drainS i
theorem CSok.pd6 (h:CSok C S k):CSok C (pd6 S) k:=(((((h.pd 0).pd 1).pd 2).pd 3).pd 4).pd 5
theorem CSok.r3 {H:Sys×Ms×Int} {l:List Evt} (h:CSok C H.1 k):CSok (Zez C H l).1 (Zez C H l).2.1 k:=by simp only [Zez];exact (h.hearC H.2.1).pd6
theorem CSok.r2 {D:Res} {l:List Evt} (h:CSok D.1 D.2.1 k) (hk:k<100000):CSok (XeE D l).1 (XeE D l).2.1 (k+1):=by simp only [XeE];exact CSok.r3 (((h.up 0).answer 0).hear hk 0)
theorem CSok.r1 {E:Res} (h:CSok E.1 E.2.1 k) (hk:k+1<100000):CSok (JeC E).1 (JeC E).2.1 (k+1+1):=by simp only [JeC];exact CSok.r2 (h.drain (by omega)) hk
theorem CSok.round (h:CSok C S k) (hk:k+5<100000):CSok (Xfm C S).1 (Xfm C S).2.1 (k+5):=by simp only [Xfm];exact CSok.r1 (h.exec (by omega)) (by omega)
theorem CSok.new {id room:Int} {us:List Int} {c:Cfg} (hc:c.good) (hr:1≤room∧room≤16) (hl:us.length≤4096) (hu: ∀u∈us,0≤u∧u<18446744073709551616) (k:Nat):CSok (JbI id room us) (QcE c []) k:=
 ⟨Xf0 hr hl hu,Xf3 _ _ _,Xfj hc (.inl rfl) k,XfO c⟩
end
end Go.Proofs.YtkdfaijmjmnhjaaGreat.Gen
namespace Go.Proofs.YtkdfaijmjmnhjaaGreat.Gen
open Go Go.Proofs.YtkdfaijmjmnhjaaGreat.Abs Go.RowKit
section
variable {C:Cr} {S:Sys}
end
structure Qho where
 kind:Int
 line:Int
 val:Int
 m:Ms
def ZgR (x:Qho) (C:Cr) (S:Sys):Cr×Sys:=
 if x.kind=0 then ((C.exec S).1,(C.exec S).2.1) else if x.kind=1 then ((C.drain S).1,(C.drain S).2.1) else if x.kind=2 then (C,(S.up 0).1) else if x.kind=3 then (C,(S.answer 0).1)
 else if x.kind=4 then ((C.hear (S.hear 0).2.1).1,(S.hear 0).1) else if x.kind=5 then (C,(S.push x.line).1) else (C,S)
theorem CSok.step {C:Cr} {S:Sys} {k:Nat} (h:CSok C S k) (hk:k+3<100000) (x:Qho):CSok (ZgR x C S).1 (ZgR x C S).2 (k+3):=by
 have le: ∀{C:Cr} {S:Sys} {k k':Nat},CSok C S k→k≤k'→CSok C S k':=fun h hk=>⟨h.ok,h.cn,h.wf.le hk,h.sn⟩
 unfold ZgR
 split
 ·exact h.exec hk
 split
 ·exact le (h.drain (by omega)) (by omega)
 split
 ·exact le (h.up 0) (by omega)
 split
 ·exact le (h.answer 0) (by omega)
 split
 ·exact le ((h.hear (by omega) 0).hearC _) (by omega)
 split
 ·exact le (h.push _) (by omega)
 ·exact le h (by omega)
end Go.Proofs.YtkdfaijmjmnhjaaGreat.Gen
namespace Go.Proofs.YtkdfaijmjmnhjaaGreat.Gen
open Go Go.Proofs.YtkdfaijmjmnhjaaGreat.Abs Go.RowKit
variable {g:G} {n:Nat} {T:Type}
structure CW where
 lc:Nat
 lp:Nat
 lb:Nat
def CW.mem (w:CW) (l:Nat):Prop:=l=w.lc∨l=w.lp∨l=w.lb
instance (w:CW) (l:Nat):Decidable (w.mem l):=by unfold CW.mem;infer_instance
def un (w:CW) (o:Col T) (g:G):G:=fun l=>if w.mem l then none else unc o g l
theorem Qg5 (w:CW) (o:Col T) (g:G):Sub (un w o g) (unc o g):=fun l=>by
 unfold un;split
 ·exact .inl rfl
 ·exact .inr rfl
theorem QaW {w:CW} {o o':Col T} {g g':G} (h:Sub (unc o g) (unc o' g')):Sub (un w o g) (un w o' g'):=fun l=>by
 unfold un;split
 ·exact .inl rfl
 ·exact h l
theorem Zbn {w:CW} {o:Col T} {l:Nat} {b:Blk} (h:un w o g l=some b): ¬w.mem l∧o l=none∧g l=some b:=by
 unfold un at h
 split at h
 ·cases h
 ·rename_i hm
  unfold unc at h
  split at h
  ·rename_i ho;exact ⟨hm,ho,h⟩
  ·cases h
theorem Jc7 {w:CW} {o:Col T} {l:Nat} (hm: ¬w.mem l) (ho:o l=none):un w o g l=g l:=by
 unfold un;rw [if_neg hm,Xr ho]
theorem Qgo {w:CW} {o:Col T} {l:Nat} (hm:w.mem l) (b:Option Blk):un w o (upd g l b)=un w o g:=by
 funext i
 unfold un
 split
 ·rfl
 ·rename_i h
  unfold unc
  rw [Qc _ _ (fun e=>h (by rw [e];exact hm))]
theorem QdC {F:G} {w:CW} {o:Col T} {l:Nat} (h:Sub F (un w o g)) (hf:F l=none) (b:Option Blk):Sub F (un w o (upd g l b)):=fun i=>by
 by_cases hi:i=l
 ·subst hi;exact .inl hf
 ·rcases h i with h|h
  ·exact .inl h
  ·refine .inr (h.trans ?_)
   unfold un unc
   rw [Qc _ _ hi]
theorem XcM {o o':Col T} {g':G} {l:Nat} {b:Blk} (ho:o l=none) (hg:g l=some b) (h:Sub (unc o g) (unc o' g')):o' l=none∧g' l=some b:=by
 have:=h.live (show unc o g l=some b by rw [Xr ho];exact hg)
 unfold unc at this
 split at this
 ·rename_i e;exact ⟨e,this⟩
 ·cases this
def OutH {α:Type} (enc:α→List Value) (z:Nat) (F:G) (N:List Nat) (o:Col T) (g:G) (v:Value) (xs:List α):Prop:=
 (v= .slice none 0 0∧xs=[])∨ ∃l off cs,v= .slice (some ⟨l,off,none⟩) xs.length (LC+z)∧o l=none∧F l=none∧l∉N∧g l=some (.cells cs (.loose z))∧off+xs.length*z≤cs.length∧(cs.drop off).take (xs.length*z)=(xs.map enc).flatten
section
variable {α:Type} {enc:α→List Value} {z:Nat} {F:G} {N:List Nat} {o:Col T} {v:Value} {xs:List α}
theorem OutH.nil:OutH enc z F N o g (.slice none 0 0) ([]:List α):= .inl ⟨rfl,rfl⟩
theorem OutH.sl (hz: ∀x,(enc x).length=z) (h:OutH enc z F N o g v xs):Sl enc z (unc o g) v xs:=by
 rcases h with ⟨rfl,rfl⟩|⟨l,off,cs,rfl,ho,_,_,hg,hl,he⟩
 ·exact Sl.nil
 ·exact ⟨_,_,rfl,Xh enc z hz xs,.inr ⟨l,off,rfl⟩,fun _=>⟨l,off,cs,_,rfl,by rw [Xr ho];exact hg,hl,he⟩⟩
theorem OutH.keep {o':Col T} {g':G} (h:OutH enc z F N o g v xs) (k: ∀l b,l∉N→o l=none→g l=some b→o' l=none∧g' l=some b):OutH enc z F N o' g' v xs:=by
 rcases h with h|⟨l,off,cs,rfl,ho,hf,hn,hg,hl,he⟩
 ·exact .inl h
 ·obtain ⟨h1,h2⟩:=k l _ hn ho hg
  exact .inr ⟨l,off,cs,rfl,h1,hf,hn,h2,hl,he⟩
theorem OutH.unc {o':Col T} {g':G} (h:OutH enc z F N o g v xs) (k:Sub (unc o g) (unc o' g')):OutH enc z F N o' g' v xs:=h.keep fun _ _ _ ho hg=>XcM ho hg k
theorem OutH.upd {l:Nat} {b:Option Blk} (h:OutH enc z F N o g v xs) (hl:l∈N):OutH enc z F N o (upd g l b) v xs:=
 h.keep fun i _ hi ho hg=>⟨ho,by rw [Qc _ _ (fun e=>hi (by rw [e];exact hl))];exact hg⟩
theorem OutH.new {l:Nat} {b:Option Blk} (h:OutH enc z F N o g v xs) (hl:g l=none):OutH enc z F N o (Abs.upd g l b) v xs:=
 h.keep fun i _ hi ho hg=>⟨ho,by rw [Qc _ _ (fun e=>by rw [e,hl] at hg;cases hg)];exact hg⟩
theorem OutH.cellOk (h:OutH enc z F N o g v xs):isCell v=true:=by
 rcases h with ⟨rfl,_⟩|⟨l',off,cs,rfl,_⟩<;>rfl
theorem OutH.append {bytes:Nat} {x:Value} {ys:List α} {K:Cont} (hz: ∀x,(enc x).length=z) (h:OutH enc z F N o g v xs) (hL:Live o g) (hN: ∀l∈N,∃b,g l=some b) (hF: ∀l b,F l=some b→ ∃c,g l=some c) (hx:Sl enc z g x ys) (hc: ∀y,∀v∈enc y,isCell v=true)
  (hb:bytes≤1048576) (h1:(xs.length+ys.length)*bytes≤140737488355328) (h2:xs.length+ys.length<140737488355328)
  (hK: ∀v' g' n',(∀l,l∈N∨F l≠none∨o l≠none→g' l=g l)→(∀l b,g l=some b→J2 v≠some l→g' l=some b)→OutH enc z F N o g' v' (xs++ys)→K v' g' n'):Zt v x z bytes g n K:=by
 obtain ⟨ax,cx,rfl⟩: ∃ax cx,x= .slice ax ys.length cx:=by obtain ⟨a,c,e,_⟩:=id hx;exact ⟨a,c,e⟩
 have hnew: ∀w∈(ys.map enc).flatten,isCell w=true:=by
  intro w hw
  obtain ⟨l,hl,hw⟩:=List.mem_flatten.1 hw
  obtain ⟨y,_,rfl⟩:=List.mem_map.1 hl
  exact hc y w hw
 by_cases hy:ys.length=0
 ·have hys:ys=[]:=List.eq_nil_of_length_eq_zero hy
  subst hys
  rcases h with ⟨rfl,rfl⟩|⟨l,off,cs,rfl,ho,hf,hn,hg,hl,he⟩
  ·refine ⟨hb,by simpa using h1,by simpa using h2,Rd.elems hx ⟨hnew,?_⟩⟩
   rw [if_pos (by unfold LC;decide)]
   refine ⟨rfl,?_⟩
   exact hK _ _ _ (fun _ _=>rfl) (fun _ _ e _=>e) .nil
  ·refine ⟨hb,h1,h2,Rd.elems hx ⟨hnew,?_⟩⟩
   rw [if_neg (by omega)]
   refine ⟨rfl,JaJ hg ⟨rfl,hl,fun hn'=> ?_⟩⟩
   have hnl:n≠l:=fun e=>by rw [e,hg] at hn';cases hn'
   refine hK _ _ _ (fun i hi=> ?_) (fun i b e hi=> ?_) (.inr ⟨n,0,(xs.map enc).flatten++[],?_,hL.fresh hn',?_,?_,?_,?_,?_⟩)
   ·have hin:i≠n:=fun e=>by
     subst e
     rcases hi with hi|hi|hi
     ·obtain ⟨b,hb⟩:=hN _ hi;rw [hn'] at hb;cases hb
     ·cases e:F i with
      | none=>exact hi e
      | some b=>obtain ⟨c,hc⟩:=hF _ _ e;rw [hn'] at hc;cases hc
     ·exact hi (hL.fresh hn')
    have hil:i≠l:=fun e=>by
     subst e
     rcases hi with hi|hi|hi
     ·exact hn hi
     ·exact hi hf
     ·exact hi ho
    rw [Qc _ _ hin,Qc _ _ hil]
   ·have hin:i≠n:=fun h=>by rw [h,hn'] at e;cases e
    have hil:i≠l:=fun h=>hi (by rw [h];rfl)
    rw [Qc _ _ hin,Qc _ _ hil];exact e
   ·simp
   ·cases e:F n with
    | none=>rfl
    | some b=>obtain ⟨c,hc⟩:=hF _ _ e;rw [hn'] at hc;cases hc
   ·intro hi;obtain ⟨b,hb⟩:=hN _ hi;rw [hn'] at hb;cases hb
   ·rw [Xa,he];simp
   ·rw [List.append_nil,List.append_nil,Xh enc z hz];omega
   ·rw [List.append_nil,List.append_nil,List.drop_zero,List.take_of_length_le (by rw [Xh enc z hz];exact Nat.le_refl _)]
 ·have fr: ∀{m:Nat},g m=none→F m=none∧m∉N∧o m=none:=fun {m} hn'=>by
   refine ⟨?_,?_,hL.fresh hn'⟩
   ·cases e:F m with
    | none=>rfl
    | some b=>obtain ⟨c,hc⟩:=hF _ _ e;rw [hn'] at hc;cases hc
   ·intro hi;obtain ⟨b,hb⟩:=hN _ hi;rw [hn'] at hb;cases hb
  rcases h with ⟨rfl,rfl⟩|⟨l,off,cs,rfl,ho,hf,hn,hg,hl,he⟩
  ·refine ⟨hb,by simpa using h1,by simpa using h2,Rd.elems hx ⟨hnew,?_⟩⟩
   rw [if_pos (by unfold LC;decide),if_neg (by omega)]
   refine ⟨by simp,?_⟩
   intro hn'
   obtain ⟨f1,f2,f3⟩:=fr hn'
   refine hK _ _ _ (fun i hi=>Qc _ _ (fun e=>by subst e;rcases hi with hi|hi|hi;exact f2 hi;exact hi f1;exact hi f3)) (fun i b e _=>by rw [Qc _ _ (fun h=>by rw [h,hn'] at e;cases e)];exact e)
    (.inr ⟨n,0,(ys.map enc).flatten,?_,f3,f1,f2,?_,?_,?_⟩)
   ·simp
   ·rw [Xa];simp
   ·rw [List.nil_append,Xh enc z hz];omega
   ·rw [List.nil_append,List.drop_zero,List.take_of_length_le (by rw [Xh enc z hz];exact Nat.le_refl _)]
  ·refine ⟨hb,h1,h2,Rd.elems hx ⟨hnew,?_⟩⟩
   rw [if_neg (by omega)]
   refine ⟨rfl,JaJ hg ⟨rfl,hl,fun hn'=> ?_⟩⟩
   obtain ⟨f1,f2,f3⟩:=fr hn'
   refine hK _ _ _ (fun i hi=> ?_) (fun i b e hi=> ?_) (.inr ⟨n,0,(xs.map enc).flatten++(ys.map enc).flatten,?_,f3,f1,f2,?_,?_,?_⟩)
   ·rw [Qc _ _ (fun e=>by subst e;rcases hi with hi|hi|hi;exact f2 hi;exact hi f1;exact hi f3),Qc _ _ (fun e=>by subst e;rcases hi with hi|hi|hi;exact hn hi;exact hi hf;exact hi ho)]
   ·rw [Qc _ _ (fun h=>by rw [h,hn'] at e;cases e),Qc _ _ (fun h=>hi (by rw [h];rfl))];exact e
   ·simp
   ·rw [Xa,he]
   ·rw [←JaF,Xh enc z hz];omega
   ·rw [List.drop_zero,←JaF,List.take_of_length_le (by rw [Xh enc z hz];exact Nat.le_refl _)]
end
end Go.Proofs.YtkdfaijmjmnhjaaGreat.Gen
namespace Go.Proofs.YtkdfaijmjmnhjaaGreat.Gen
open Go Go.Proofs.YtkdfaijmjmnhjaaGreat.Abs Go.RowKit
variable {g:G} {n:Nat}
def Q5 (L:List SE) (room:Int) (f n:Nat):List Value:=(L.map Zj).flatten++[.int .i64 room,.int .i64 (f:Nat),.int .i64 (n:Nat)]
theorem Zbq {L:List SE} (h:L.length=16):(L.map Zj).flatten.length=80:=by rw [Xh Zj 5 Jz,h]
section
variable {L:List SE} {room:Int} {f k:Nat}
theorem Xc0 (h:L.length=16):(Q5 L room f k).length=83:=by unfold Q5;rw [List.length_append,Zbq h];rfl
theorem Xa6 (h:L.length=16) (i:Nat):(Q5 L room f k)[80+i]? =[Value.int .i64 room,.int .i64 (f:Nat),.int .i64 (k:Nat)][i]? :=by
 unfold Q5
 rw [List.getElem?_append_right (by rw [Zbq h];omega),Zbq h]
 congr 1;omega
theorem ZgW (h:L.length=16) {i:Nat} {e:SE} (hi:L[i]? =some e):((Q5 L room f k).drop (i*5)).take 5=Zj e:=by
 have hlt:=Zi hi
 unfold Q5
 rw [List.drop_append_of_le_length (by rw [Zbq h];omega),List.take_append_of_le_length (by rw [List.length_drop,Zbq h];omega)]
 exact Xbi Zj 5 Jz L i e hi
theorem Xgo (h:L.length=16) {i:Nat} (hi:i<16) (e:SE):splice (Q5 L room f k) (i*5) (Zj e)=Q5 (L.set i e) room f k:=by
 have hs:=XeK (enc:=Zj) (z:=5) Jz L i e (by omega)
 have h80:=Zbq h
 unfold Q5
 rw [←hs]
 unfold splice
 rw [List.take_append_of_le_length (by omega),List.drop_append_of_le_length (by rw [Jz];omega)]
 simp
theorem Zfk {x x':SE} {j:Nat} {v:Value} (hj:j<5) (he:Zj x'=(Zj x).set j v): ∀{xs:List SE} {i:Nat},xs[i]? =some x→(xs.map Zj).flatten.set (i*5+j) v=((xs.set i x').map Zj).flatten
 | [],i,h=>by cases i<;>cases h
 | y::ys,0,h=>by
  cases h
  simp only [List.set_cons_zero,List.map_cons,List.flatten_cons,Nat.zero_mul,Nat.zero_add]
  rw [List.set_append_left _ _ (by rw [Jz];exact hj),he]
 | y::ys,i+1,h=>by
  simp only [List.set_cons_succ,List.map_cons,List.flatten_cons]
  rw [List.set_append_right _ _ (by rw [Jz];omega),Jz,show (i+1)*5+j-5=i*5+j by omega,Zfk hj he (xs:=ys) (i:=i) h]
theorem XgR (h:L.length=16) {i:Nat} {e:SE} (hi:L[i]? =some e):(Q5 L room f k).set (i*5+4) (.bool true)=Q5 (L.set i { e with sent:=true }) room f k:=by
 have hlt:=Zi hi
 unfold Q5
 rw [List.set_append_left _ _ (by rw [Zbq h];omega),Zfk (x:=e) (x':={ e with sent:=true }) (by decide) rfl hi]
theorem Jfj (h:L.length=16) (i:Nat) (v:Value):(Q5 L room f k).set (80+i) v=(L.map Zj).flatten++[Value.int .i64 room,.int .i64 (f:Nat),.int .i64 (k:Nat)].set i v:=by
 unfold Q5
 rw [List.set_append_right _ _ (by rw [Zbq h];omega),Zbq h]
 congr 2;omega
end
theorem Xd8 {l o len z:Nat} {kk:IntKind} {i:Int} {K:Value→Prop} (h0:0≤i) (h1:i<len) (k:K (ptr l (o+i.toNat*z))):Ji (ptr l o) (.int kk i) len z K:=⟨h0,h1,k⟩
structure BRaw (g:G) (lb:Nat) (room:Int) (b:List SE) (L:List SE) (f:Nat):Prop where
 len:L.length=16
 fl:f<16
 nl:b.length≤16
 ati: ∀(i:Nat) e,b[i]? =some e→L[(f+i)%16]? =some e
 hb:g lb=some (.cells (Q5 L room f b.length) .exact)
def BufH (g:G) (lb:Nat) (room:Int) (b:List SE):Prop:= ∃L f,BRaw g lb room b L f
def Chg (X:Nat→Prop) (g g':G):Prop:= ∀l,¬X l→g l=none∨g' l=g l
section
variable {X:Nat→Prop}
theorem Chg.of_sub {g':G} (h:Sub g g'):Chg X g g':=fun l _=>(h l).imp_right Eq.symm
theorem Chg.refl:Chg X g g:=fun _ _=> .inr rfl
theorem Chg.trans {g1 g2:G} (h:Chg X g g1) (k:Chg X g1 g2):Chg X g g2:=fun l hl=>by
 rcases h l hl with e|e
 ·exact .inl e
 ·rcases k l hl with e2|e2
  ·exact .inl (by rw [←e];exact e2)
  ·exact .inr (e2.trans e)
theorem Chg.live {g':G} (h:Chg X g g') {l:Nat} {b:Blk} (hl: ¬X l) (e:g l=some b):g' l=some b:=by
 rcases h l hl with k|k
 ·rw [k] at e;cases e
 ·rw [k];exact e
theorem Chg.upd {g':G} (h:Chg X g g') {l:Nat} (hl:X l) (b:Option Blk):Chg X g (upd g' l b):=fun i hi=>by
 have:i≠l:=fun e=>hi (by rw [e];exact hl)
 rw [Qc _ _ this];exact h i hi
theorem Chg.updE {g':G} {l:Nat} (h:Chg (fun x=>x=l) g g') (b:Option Blk):Chg (fun x=>x=l) g (Abs.upd g' l b):=h.upd rfl b
theorem Chg.new {g':G} (h:Chg X g g') {l:Nat} (hl:g l=none) (b:Option Blk):Chg X g (Abs.upd g' l b):=fun i hi=>by
 by_cases e:i=l
 ·subst e;exact .inl hl
 ·rw [Qc _ _ e];exact h i hi
theorem Chg.mono {Y:Nat→Prop} {g':G} (h:Chg X g g') (hy: ∀l,X l→Y l):Chg Y g g':=fun l hl=>h l (fun k=>hl (hy l k))
end
section
variable {lb:Nat} {room:Int} {b L:List SE} {f:Nat} {K:Cont}
theorem BRaw.mono {g':G} (h:BRaw g lb room b L f) (hs:Sub g g'):BRaw g' lb room b L f:=⟨h.len,h.fl,h.nl,h.ati,hs.live h.hb⟩
theorem BufH.mono {g':G} (h:BufH g lb room b) (hs:Sub g g'):BufH g' lb room b:=by obtain ⟨L,f,h⟩:=h;exact ⟨L,f,h.mono hs⟩
theorem BufH.eq {g':G} (h:BufH g lb room b) (hs:g' lb=g lb):BufH g' lb room b:=by obtain ⟨L,f,h⟩:=h;exact ⟨L,f,h.len,h.fl,h.nl,h.ati,hs.trans h.hb⟩
theorem Jcm (h:BufH g lb room b) (hK: ∀n',K (.int .i64 b.length) g n'):AC JC [ptr lb 0] g n K:=by
 obtain ⟨L,f,h⟩:=h
 refine ACalls.fold Xb ?_
 rw [←Xch]
 simp only [XbF]
 refine QaY (Qu (fun h=>nomatch h) (fun _=> ?_))
 rw [Ze,Zb]
 refine Qb h.hb (by rw [Nat.zero_add];exact Xa6 h.len 2) ?_
 exact Ja (Sub.refl _) (hK _)
theorem Qce {k:Nat} (hl:L.length=16) (hf:f<16) (hb:g lb=some (.cells (Q5 L room f k) .exact)) {i:Int} (h0:0≤i) (h1:i≤16) (hK: ∀n',K (.int .i64 ((f+i.toNat)%16:Nat)) g n'):AC JA [ptr lb 0,.int .i64 i] g n K:=by
 refine ACalls.fold Xb ?_
 rw [←Qcu]
 simp only [QbX]
 rw [Ze,Zb]
 refine Qb hb (by rw [Nat.zero_add];exact Xa6 hl 1) ?_
 rw [Jh,Jf (by omega) (by omega),QaI]
 refine ⟨by decide,?_⟩
 have e:Int.tmod ((f:Int)+i) 16=(((f+i.toNat)%16:Nat):Int):=by
  rw [Int.tmod_eq_emod_of_nonneg (by omega)];omega
 rw [e]
 exact Ja (Sub.refl _) (hK _)
theorem XgQ {l:Nat} {e:SE} {bk:BK} {K:List Value→Prop} (h:g l=some (.cells (Zj e) bk)) (k:K (Zj e)):Zo g l 0 5 K:=by
 refine XA h (by rw [Jz];decide) ?_
 rw [List.drop_zero,List.take_of_length_le (by rw [Jz];decide)];exact k
theorem Xf9 {l:Nat} {z e:SE} {K:G→Prop} (h:g l=some (.cells (Zj z) .exact)) (k:upd g l (some (.cells (Zj e) .exact)) l=some (.cells (Zj e) .exact)→K (upd g l (some (.cells (Zj e) .exact)))):(Zj e).length=5∧Xu g l 0 (Zj e) K:=by
 refine ⟨Jz _,Zw h rfl (by rw [Jz,Jz];decide) (QbO _) ?_⟩
 rw [Zz (by rw [Jz,Jz])]
 exact k (Xa _ _ _)
theorem BRaw.ent (h:BRaw g lb room b L f) {i:Nat} {e:SE} (hi:b[i]? =some e) {K:List Value→Prop} (k:K (Zj e)):Zo g lb (0+0+((f+i)%16)*5) 5 K:=by
 have hL:=h.ati i e hi
 have hlt:=Zi hL
 rw [h.len] at hlt
 refine XA h.hb (by rw [Xc0 h.len];omega) ?_
 rw [show 0+0+((f+i)%16)*5=((f+i)%16)*5 by omega,ZgW h.len hL];exact k
theorem BRaw.head {e:SE} {t:List SE} (h:BRaw g lb room (e::t) L f) {K:List Value→Prop} (k:K (Zj e)):Zo g lb (0+0+f*5) 5 K:=by
 have:=h.ent (i:=0) (e:=e) rfl (K:=K) k
 rw [show (f+0)%16=f by have:=h.fl;omega] at this
 exact this
theorem Zex (e:SE) (hK: ∀g' n',Sub g g'→K (.bool e.good) g' n'):AC XbC [.agg (Zj e).toArray] g n K:=by
 refine ACalls.fold Xb ?_
 rw [←Zd5]
 simp only [Qd2,Xe]
 intro hn
 have s1:=(Sub.refl g).new hn (some (.cells (Zj e) .exact))
 have x1:upd g n (some (.cells (Zj e) .exact)) n=some (.cells (Zj e) .exact):=Xa _ _ _
 generalize upd g n (some (.cells (Zj e) .exact))=g1 at s1 x1
 have fin: ∀(c:Bool) (m:Nat),c=e.good→Jc K (.bool c) g1 m:=fun c m h=>by subst h;exact Ja (Sub.refl _) (hK _ _ s1)
 have j: ∀(t:Env) (m:Nat),t 1=ptr n 0→0≤e.line→e.line<64→0≤e.word→e.word<8→e.sent=false→e.kind≠9→t 29= .bool (decide (e.kind=12∨e.kind=13∨e.kind=14))→XaJ AC K t g1 m:=by
  intro t m t1 a1 a2 a3 a4 a5 a6 t29
  simp only [XaJ,t1,t29,Zb]
  refine Xj (fun hk=> ?_) (fun hk=>fin _ _ ?_)
  ·refine Qb x1 rfl (Zae (Xj (fun h1=> ?_) (fun h1=>fin _ _ ?_)))
   ·refine Qb x1 rfl (Zae (fin _ _ ?_))
    unfold SE.good;simp [a1,a2,a5,a6,hk,h1]
   ·unfold SE.good;simp [a6,h1]
  ·unfold SE.good;simp [a6];omega
 refine Qb x1 rfl (QdN (Xj (fun h1=>fin _ _ (by unfold SE.good;simp;omega)) (fun h1=> ?_)))
 refine Qb x1 rfl (Xem (Xj (fun h2=>fin _ _ (by unfold SE.good;simp;omega)) (fun h2=> ?_)))
 refine Qb x1 rfl (QdN (Xj (fun h3=>fin _ _ (by unfold SE.good;simp;omega)) (fun h3=> ?_)))
 refine Qb x1 rfl (Xem (Xj (fun h4=>fin _ _ (by unfold SE.good;simp;omega)) (fun h4=> ?_)))
 refine Qb x1 rfl (Qu (fun h5=>fin _ _ (by unfold SE.good;simp [h5])) (fun h5=> ?_))
 refine Qb x1 rfl (Zae (Xj (fun h6=>fin _ _ (by unfold SE.good;simp [h5,h6];omega)) (fun h6=> ?_)))
 refine Zae (Xj (fun h7=>j _ _ rfl (by omega) (by omega) (by omega) (by omega) h5 h6 ?_) (fun h7=>Zae (Xj (fun h8=>j _ _ rfl (by omega) (by omega) (by omega) (by omega) h5 h6 ?_) (fun h8=>Zae (j _ _ rfl (by omega) (by omega) (by omega) (by omega) h5 h6 ?_)))))
 ·show Value.bool (decide (e.kind=12))=_;congr 1;simp [h7]
 ·show Value.bool (decide (e.kind=13))=_;congr 1;simp [h8]
 ·show Value.bool (decide (e.kind=14))=_;congr 1;simp [h7,h8]
theorem Qcz (h:BufH g lb room b) (hK: ∀g' n',Sub g g'→K (.tuple #[.agg (Zj (b.headD Zm)).toArray,.bool (!b.isEmpty)]) g' n'):AC JF [ptr lb 0] g n K:=by
 refine ACalls.fold Xb ?_
 rw [←Qb9]
 simp only [Jbu,Jp]
 intro hn
 have s1:Sub g (upd g n (some (.cells (Zj Zm) .exact))):=(Sub.refl g).new hn _
 have hz:upd g n (some (.cells (Zj Zm) .exact)) n=some (.cells (Zj Zm) .exact):=Xa _ _ _
 change AC JC [ptr lb 0] (upd g n (some (.cells (Zj Zm) .exact))) (n+1) _
 have h1:=h.mono s1
 generalize upd g n (some (.cells (Zj Zm) .exact))=g1 at s1 hz h1
 refine Jcm h1 (fun n2=> ?_)
 refine Zae ?_
 cases b with
 | nil=>
  refine Jd rfl ?_
  change Zn (.agg (Zj Zm).toArray) _
  rw [Xe]
  refine Xf9 hz (fun h=> ?_)
  refine XgQ h ?_
  exact Ja (Sub.refl _) (hK _ _ (s1.upd_fresh _ hn))
 | cons e t=>
  refine Zc (decide_eq_false (by simp;omega)) ?_
  obtain ⟨L,f,hr⟩:=h1
  rw [Ze,Zb]
  refine Qb hr.hb (by rw [Nat.zero_add];exact Xa6 hr.len 1) ?_
  rw [Ze,Zb]
  have hf:=hr.fl
  refine Xd8 (by omega) (by omega) ?_
  rw [Zb,Int.toNat_natCast]
  refine hr.head ?_
  rw [Xe]
  refine Xf9 hz (fun h=> ?_)
  refine XgQ h ?_
  exact Ja (Sub.refl _) (hK _ _ (s1.upd_fresh _ hn))
end
end Go.Proofs.YtkdfaijmjmnhjaaGreat.Gen
namespace Go.Proofs.YtkdfaijmjmnhjaaGreat.Gen
open Go Go.Proofs.YtkdfaijmjmnhjaaGreat.Abs Go.RowKit
variable {g:G} {n:Nat}
section
variable {lb:Nat} {room:Int} {b L:List SE} {f:Nat} {K:Cont}
theorem Je3 (l:List SE) (e:SE) (x y:Int):Xbz (l++[e]) x y=if Qeu x y e=true then some e.val else Xbz l x y:=by
 unfold Xbz
 rw [List.reverse_append,List.reverse_singleton,List.singleton_append,List.find?_cons]
 split<;>rename_i h
 ·rw [if_pos h];rfl
 ·rw [if_neg (by rw [h];decide)]
set_option maxRecDepth 100000 in
theorem Xe5 (h:BufH g lb room b) (line word:Int) (hK: ∀g' n',Sub g g'→K (.tuple #[.int .u64 ((Xbz b line word).getD 0),.bool (Xbz b line word).isSome]) g' n'):
  AC Qar [ptr lb 0,.int .i64 line,.int .i64 word] g n K:=by
 refine ACalls.fold Xb ?_
 rw [←Xb5]
 simp only [Jbr]
 refine Jcm h (fun n1=> ?_)
 obtain ⟨L,f,hr⟩:=h
 have hn16:=hr.nl
 rw [JaD,Jf (by omega) (by omega)]
 refine X8 (m:=b.length) (Inv:=fun m t g1 n1=>m≤b.length∧t 0=ptr lb 0∧t 1= .int .i64 line∧t 2= .int .i64 word∧t 8= .int .i64 ((m:Int)-1)∧Sub g g1∧Xbz b line word=Xbz (b.take m) line word) ?_
  ⟨Nat.le_refl _,rfl,rfl,rfl,rfl,Sub.refl _,by rw [List.take_length]⟩
 rintro I m t g1 n1 ih ⟨hm,q0,q1,q2,q8,s1,hf⟩
 simp only [ZaY]
 have q8':=q8
 rw [q8]
 refine Xem ?_
 cases m with
 | zero=>
  refine Zc (decide_eq_false (by omega)) ?_
  have e:Xbz b line word=none:=by rw [hf];rfl
  rw [e] at hK
  exact Ja (Sub.refl _) (hK _ _ s1)
 | succ j=>
  refine Jd (decide_eq_true (by omega)) ?_
  have hj:j<b.length:=hm
  obtain ⟨e,he⟩: ∃e,b[j]? =some e:=⟨_,List.getElem?_eq_getElem hj⟩
  have htk:b.take (j+1)=b.take j++[e]:=take_add he
  rw [htk,Je3] at hf
  have fin: ∀{g2:G} {n2:Nat},Sub g g2→Qeu line word e=true→K (.tuple #[.int .u64 e.val,.bool true]) g2 n2:=by
   intro g2 n2 s2 hs
   have:=hK g2 n2 s2
   rw [hf,if_pos hs] at this
   exact this
  have next:Qeu line word e=false→Xbz b line word=Xbz (b.take j) line word:=by
   intro hs;rw [hf,if_neg (by rw [hs];decide)]
  have hr1:=hr.mono s1
  rw [q0]
  simp only [Ze,Zb]
  refine ⟨?_,?_⟩
  ·rw [show (((j+1:Nat):Int)-1)=(j:Nat) by omega] at q8 ⊢
   refine Qce hr1.len hr1.fl hr1.hb (by omega) (by omega) (fun n2=> ?_)
   rw [Int.toNat_natCast]
   have hmod:(f+j)%16<16:=Nat.mod_lt _ (by decide)
   refine Xd8 (by omega) (by omega) ?_
   rw [Zb,Int.toNat_natCast]
   refine hr1.ent he ?_
   change Zq (Zj Zm) .exact g1 n2 _
   intro hn
   have s9:=s1.trans ((Sub.refl g1).new hn (some (.cells (Zj Zm) .exact)))
   have hne:n2≠lb:=fun e=>by rw [e,hr1.hb] at hn;cases hn
   refine ⟨Qc _ _ (Ne.symm hne),?_⟩
   rw [Xe]
   refine Xf9 (z:=Zm) (Xa _ _ _) (fun x9=> ?_)
   have s9:Sub g (upd (upd g1 n2 (some (.cells (Zj Zm) .exact))) n2 (some (.cells (Zj e) .exact))):=s9.upd_fresh _ (s1.none hn)
   generalize upd (upd g1 n2 (some (.cells (Zj Zm) .exact))) n2 (some (.cells (Zj e) .exact))=g9 at x9 s9
   refine Qb x9 rfl (Zae (Xj (fun c1=> ?_) (fun c1=> ?_)))
   ·refine Qb x9 rfl ?_
    rw [q1]
    refine Zae (Xj (fun c2=> ?_) (fun c2=> ?_))
    ·refine Qb x9 rfl ?_
     rw [q2]
     refine Zae (Xj (fun c3=> ?_) (fun c3=> ?_))
     ·refine Qb x9 rfl ?_
      exact Ja (Sub.refl _) (fin s9 (by rw [Qeu,decide_eq_true ⟨c1,c2,c3⟩]))
     ·rw [JaD,Jf (by omega) (by omega)]
      exact ih _ _ _ _ (Nat.lt_succ_self _) ⟨by omega,q0,q1,q2,rfl,s9,next (by rw [Qeu];exact decide_eq_false (fun c=>c3 c.2.2))⟩
    ·rw [JaD,Jf (by omega) (by omega)]
     exact ih _ _ _ _ (Nat.lt_succ_self _) ⟨by omega,q0,q1,q2,rfl,s9,next (by rw [Qeu];exact decide_eq_false (fun c=>c2 c.2.1))⟩
   ·rw [JaD,Jf (by omega) (by omega)]
    exact ih _ _ _ _ (Nat.lt_succ_self _) ⟨by omega,q0,q1,q2,rfl,s9,next (by rw [Qeu];exact decide_eq_false (fun c=>c1 c.1))⟩
  ·rw [show (((j+1:Nat):Int)-1)=(j:Nat) by omega] at q8 ⊢
   intro hn
   have s9:=(Sub.refl g1).new hn (some (.cells (Zj Zm) .exact))
   have hz:upd g1 n1 (some (.cells (Zj Zm) .exact)) n1=some (.cells (Zj Zm) .exact):=Xa _ _ _
   have hr2:=hr1.mono s9
   have sg:=s1.trans s9
   change AC JA [ptr lb 0,.int .i64 (j:Nat)] (upd g1 n1 (some (.cells (Zj Zm) .exact))) (n1+1) _
   generalize upd g1 n1 (some (.cells (Zj Zm) .exact))=g2 at s9 hz hr2 sg
   refine Qce hr2.len hr2.fl hr2.hb (by omega) (by omega) (fun n2=> ?_)
   rw [Int.toNat_natCast]
   have hmod:(f+j)%16<16:=Nat.mod_lt _ (by decide)
   refine Xd8 (by omega) (by omega) ?_
   rw [Zb,Int.toNat_natCast]
   refine hr2.ent he ?_
   rw [Xe]
   refine Xf9 hz (fun x9=> ?_)
   have s9:Sub g (upd g2 n1 (some (.cells (Zj e) .exact))):=sg.upd_fresh _ (s1.none hn)
   generalize upd g2 n1 (some (.cells (Zj e) .exact))=g9 at x9 s9
   refine Qb x9 rfl (Zae (Xj (fun c1=> ?_) (fun c1=> ?_)))
   ·refine Qb x9 rfl ?_
    rw [q1]
    refine Zae (Xj (fun c2=> ?_) (fun c2=> ?_))
    ·refine Qb x9 rfl ?_
     rw [q2]
     refine Zae (Xj (fun c3=> ?_) (fun c3=> ?_))
     ·refine Qb x9 rfl ?_
      exact Ja (Sub.refl _) (fin s9 (by rw [Qeu,decide_eq_true ⟨c1,c2,c3⟩]))
     ·rw [JaD,Jf (by omega) (by omega)]
      exact ih _ _ _ _ (Nat.lt_succ_self _) ⟨by omega,q0,q1,q2,rfl,s9,next (by rw [Qeu];exact decide_eq_false (fun c=>c3 c.2.2))⟩
    ·rw [JaD,Jf (by omega) (by omega)]
     exact ih _ _ _ _ (Nat.lt_succ_self _) ⟨by omega,q0,q1,q2,rfl,s9,next (by rw [Qeu];exact decide_eq_false (fun c=>c2 c.2.1))⟩
   ·rw [JaD,Jf (by omega) (by omega)]
    exact ih _ _ _ _ (Nat.lt_succ_self _) ⟨by omega,q0,q1,q2,rfl,s9,next (by rw [Qeu];exact decide_eq_false (fun c=>c1 c.1))⟩
theorem Qe8 (h:BufH g lb room b) (hroom:room≤16) (e:SE) (hK1:e.good=false→ ∀g' n',Sub g g'→K (.int .i64 11) g' n') (hK2:e.good=true→room≤b.length→ ∀g' n',Sub g g'→K (.int .i64 13) g' n')
  (hK3:e.good=true→(b.length:Int)<room→ ∀g' n',Chg (· =lb) g g'→BufH g' lb room (b++[e])→K (.int .i64 0) g' n'):AC Zar [ptr lb 0,.agg (Zj e).toArray] g n K:=by
 refine ACalls.fold Xb ?_
 rw [←Qb2]
 simp only [Xbx,Xe]
 intro hn
 have s1:=(Sub.refl g).new hn (some (.cells (Zj e) .exact))
 have x1:upd g n (some (.cells (Zj e) .exact)) n=some (.cells (Zj e) .exact):=Xa _ _ _
 have h1:=h.mono s1
 generalize upd g n (some (.cells (Zj e) .exact))=g1 at s1 x1 h1
 refine QaY (Qu (fun h=>nomatch h) (fun _=> ?_))
 refine XgQ x1 (Zex e (fun g2 n2 s2=> ?_))
 have sg:=s1.trans s2
 obtain ⟨L,f,hr⟩:=h1.mono s2
 have x2:=s2.live x1
 refine ZaK (Qu (fun hg=>Ja (Sub.refl _) (hK1 (by simpa using hg) _ _ sg)) (fun hg=> ?_))
 have hg':e.good=true:=by simpa using hg
 rw [Ze,Zb]
 refine Qb hr.hb (by rw [Nat.zero_add];exact Xa6 hr.len 2) ?_
 rw [Ze,Zb]
 refine Qb hr.hb (by rw [Nat.zero_add];exact Xa6 hr.len 0) ?_
 refine Xem (Xj (fun hl=>Ja (Sub.refl _) (hK2 hg' hl _ _ sg)) (fun hl=> ?_))
 rw [Ze,Zb]
 refine Qb hr.hb (by rw [Nat.zero_add];exact Xa6 hr.len 2) ?_
 refine XgQ x2 ?_
 rw [Ze,Zb]
 have hf:=hr.fl
 refine Qce hr.len hr.fl hr.hb (by omega) (by omega) (fun n3=> ?_)
 rw [Int.toNat_natCast,Zb]
 refine ⟨rfl,?_⟩
 have hmod:(f+b.length)%16<16:=Nat.mod_lt _ (by decide)
 refine Xd8 (by omega) (by omega) ?_
 rw [Zb,Int.toNat_natCast]
 refine ⟨Jz _,?_⟩
 have off:0+0+(f+b.length)%16*5=(f+b.length)%16*5:=by omega
 rw [off]
 refine Zw hr.hb rfl (by rw [Xc0 hr.len,Jz];omega) (QbO _) ?_
 rw [Xgo hr.len hmod e]
 have hl2:(L.set ((f+b.length)%16) e).length=16:=by rw [List.length_set];exact hr.len
 have y:upd g2 lb (some (.cells (Q5 (L.set ((f+b.length)%16) e) room f b.length) .exact)) lb=some (.cells (Q5 (L.set ((f+b.length)%16) e) room f b.length) .exact):=Xa _ _ _
 rw [Ze,Zb]
 refine Qb y (by rw [Nat.zero_add];exact Xa6 hl2 2) ?_
 rw [Jh,Jf (by omega) (by omega)]
 rw [Ze,Zb]
 refine QB y rfl (by rw [Xc0 hl2];decide) rfl ?_
 rw [show (0+82:Nat)=80+2 from rfl,Jfj hl2]
 refine Ja (Sub.refl _) (hK3 hg' (by omega) _ _ ?_ ⟨L.set ((f+b.length)%16) e,f,hl2,hr.fl,?_,?_,?_⟩)
 ·exact ((Chg.of_sub sg).updE _).updE _
 ·simp only [List.length_append,List.length_singleton];omega
 ·intro i x hx
  by_cases hi:i<b.length
  ·rw [List.getElem?_append_left hi] at hx
   have:=hr.ati i x hx
   rw [List.getElem?_set_ne (by omega)];exact this
  ·have hi2:i=b.length:=by
    have:=Zi hx
    simp only [List.length_append,List.length_singleton] at this
    omega
   subst hi2
   rw [List.getElem?_append_right (Nat.le_refl _),Nat.sub_self] at hx
   cases hx
   exact List.getElem?_set_self (by rw [hr.len];exact hmod)
 ·rw [Xa]
  unfold Q5
  simp only [List.set_cons_succ,List.set_cons_zero,List.length_append,List.length_singleton]
  rfl
theorem QfG (h:BufH g lb room b) (hK: ∀v g' n',Chg (· =lb) g g'→BufH g' lb room b.tail→K v g' n'):AC QaB [ptr lb 0] g n K:=by
 refine ACalls.fold Xb ?_
 rw [←Zcq]
 simp only [ZbK,Jp]
 intro hn
 have s1:=(Sub.refl g).new hn (some (.cells (Zj Zm) .exact))
 have x1:upd g n (some (.cells (Zj Zm) .exact)) n=some (.cells (Zj Zm) .exact):=Xa _ _ _
 have h1:=h.mono s1
 change AC JF [ptr lb 0] (upd g n (some (.cells (Zj Zm) .exact))) (n+1) _
 generalize upd g n (some (.cells (Zj Zm) .exact))=g1 at s1 x1 h1
 refine Qcz h1 (fun g2 n2 s2=> ?_)
 have h2:=h1.mono s2
 have x2:=s2.live x1
 have sg:=s1.trans s2
 refine Jav rfl (Jav rfl ?_)
 change Zq (Zj Zm) .exact g2 n2 _
 intro hn2
 have s3:=(Sub.refl g2).new hn2 (some (.cells (Zj Zm) .exact))
 have x4:upd g2 n2 (some (.cells (Zj Zm) .exact)) n2=some (.cells (Zj Zm) .exact):=Xa _ _ _
 have h3:=h2.mono s3
 have x3:=s3.live x2
 have sg3:=sg.trans s3
 have hne:n2≠n:=fun e=>by rw [e,x2] at hn2;cases hn2
 generalize upd g2 n2 (some (.cells (Zj Zm) .exact))=g3 at s3 x4 h3 x3 sg3
 rw [Xe]
 refine Xf9 x4 (fun x5=> ?_)
 have hg2n:g n2=none:=sg.none hn2
 have sg4:Sub g (upd g3 n2 (some (.cells (Zj (b.headD Zm)) .exact))):=sg3.upd_fresh _ hg2n
 have x6:upd g3 n2 (some (.cells (Zj (b.headD Zm)) .exact)) n=some (.cells (Zj Zm) .exact):=by rw [Qc _ _ (Ne.symm hne)];exact x3
 have hnlb:n≠lb:=fun e=>by obtain ⟨L,f,hr⟩:=h;rw [e,hr.hb] at hn;cases hn
 have hn2lb:n2≠lb:=fun e=>by obtain ⟨L,f,hr⟩:=h;rw [e,hr.hb] at hg2n;cases hg2n
 have h4:BufH (upd g3 n2 (some (.cells (Zj (b.headD Zm)) .exact))) lb room b:=h3.eq (Qc _ _ (Ne.symm hn2lb))
 generalize upd g3 n2 (some (.cells (Zj (b.headD Zm)) .exact))=g4 at x5 sg4 x6 h4
 have j: ∀(t:Env) (g5:G) (m:Nat),t 4=ptr n2 0→t 2=ptr n 0→g5 n2=some (.cells (Zj (b.headD Zm)) .exact)→g5 n=some (.cells (Zj Zm) .exact)→Chg (· =lb) g g5→BufH g5 lb room b.tail→Jae AC K t g5 m:=by
  intro t g5 m t4 t2 y1 y2 hc hb
  simp only [Jae,t4,t2,Zb]
  refine XgQ y1 ?_
  rw [Xe]
  refine Xf9 y2 (fun y3=> ?_)
  refine XgQ y3 ?_
  refine Ja (Sub.refl _) (hK _ _ _ (hc.new hn _) (hb.eq (Qc _ _ (Ne.symm hnlb))))
 cases b with
 | nil=>
  refine Zc rfl ?_
  exact j _ _ _ rfl rfl x5 x6 (Chg.of_sub sg4) h4
 | cons e t=>
  refine Jd rfl ?_
  obtain ⟨L,f,hr⟩:=h4
  have hf:=hr.fl
  have hr16:=hr.nl
  rw [List.length_cons] at hr16
  rw [Ze,Zb]
  refine Qb hr.hb (by rw [Nat.zero_add];exact Xa6 hr.len 1) ?_
  rw [Ze,Zb]
  refine Xd8 (by omega) (by omega) ?_
  change Qd _ fun lg5 og5=>Zn (.agg (Zj Zm).toArray) _
  rw [Zb,Int.toNat_natCast,Xe]
  refine ⟨Jz _,?_⟩
  rw [show 0+0+f*5=f*5 by omega]
  refine Zw hr.hb rfl (by rw [Xc0 hr.len,Jz];omega) (QbO _) ?_
  rw [Xgo hr.len hf Zm]
  have hl2:(L.set f Zm).length=16:=by rw [List.length_set];exact hr.len
  have y:upd g4 lb (some (.cells (Q5 (L.set f Zm) room f (e::t).length) .exact)) lb=some (.cells (Q5 (L.set f Zm) room f (e::t).length) .exact):=Xa _ _ _
  rw [Ze,Zb]
  refine Qb y (by rw [Nat.zero_add];exact Xa6 hl2 2) ?_
  rw [JaD,Jf (by rw [List.length_cons];omega) (by rw [List.length_cons];omega)]
  refine Qce hl2 hf y (by decide) (by decide) (fun n5=> ?_)
  rw [Zb]
  refine ⟨rfl,?_⟩
  rw [Ze,Zb]
  refine QB y rfl (by rw [Xc0 hl2];decide) rfl ?_
  rw [show (0+81:Nat)=80+1 from rfl,Jfj hl2]
  have z:upd (upd g4 lb (some (.cells (Q5 (L.set f Zm) room f (e::t).length) .exact))) lb (some (.cells (Q5 (L.set f Zm) room ((f+1)%16) (e::t).length) .exact)) lb=some (.cells (Q5 (L.set f Zm) room ((f+1)%16) (e::t).length) .exact):=Xa _ _ _
  change Jg (ptr lb 0) fun v32=>Qd v32 fun l33 o33=>kSt (upd (upd g4 lb (some (.cells (Q5 (L.set f Zm) room f (e::t).length) .exact))) lb (some (.cells (Q5 (L.set f Zm) room ((f+1)%16) (e::t).length) .exact))) l33 (o33+82) _ _
  rw [Ze,Zb]
  refine QB z rfl (by rw [Xc0 hl2];decide) rfl ?_
  rw [show (0+82:Nat)=80+2 from rfl,Jfj hl2]
  refine j _ _ _ rfl rfl ?_ ?_ ?_ ⟨L.set f Zm,(f+1)%16,hl2,Nat.mod_lt _ (by decide),?_,?_,?_⟩
  ·rw [Qc _ _ hn2lb,Qc _ _ hn2lb,Qc _ _ hn2lb];exact x5
  ·rw [Qc _ _ hnlb,Qc _ _ hnlb,Qc _ _ hnlb];exact x6
  ·exact (((Chg.of_sub sg4).updE _).updE _).updE _
  ·show t.length≤16;omega
  ·intro i x hx
   have hi:=Zi (show t[i]? =some x from hx)
   have:=hr.ati (i+1) x hx
   rw [List.getElem?_set_ne (by omega)]
   rw [show ((f+1)%16+i)%16=(f+(i+1))%16 by omega];exact this
  ·rw [Xa]
   unfold Q5
   simp only [List.set_cons_succ,List.set_cons_zero,List.tail_cons,List.length_cons]
   rw [show (((t.length+1:Nat):Int)-1)=(t.length:Nat) by omega]
theorem Jff {e:SE} {t:List SE} (h:BufH g lb room (e::t)) (he:e.kind=14) (hK: ∀v g' n',Chg (· =lb) g g'→BufH g' lb room ({ e with sent:=true }::t)→K v g' n'):AC J6 [ptr lb 0] g n K:=by
 refine ACalls.fold Xb ?_
 rw [←Xb9]
 simp only [Qbu]
 refine Qcz h (fun g1 n1 s1=> ?_)
 have h1:=h.mono s1
 refine Jav rfl (Jav rfl ?_)
 change Zq (Zj Zm) .exact g1 n1 _
 intro hn
 have s2:=(Sub.refl g1).new hn (some (.cells (Zj Zm) .exact))
 have x2:upd g1 n1 (some (.cells (Zj Zm) .exact)) n1=some (.cells (Zj Zm) .exact):=Xa _ _ _
 have h2:=h1.mono s2
 have sg:=s1.trans s2
 generalize upd g1 n1 (some (.cells (Zj Zm) .exact))=g2 at s2 x2 h2 sg
 rw [Xe]
 refine Xf9 (e:=e) x2 (fun x3=> ?_)
 have sg3:Sub g (upd g2 n1 (some (.cells (Zj e) .exact))):=sg.upd_fresh _ (s1.none hn)
 have hnlb:n1≠lb:=fun e=>by obtain ⟨L,f,hr⟩:=h1;rw [e,hr.hb] at hn;cases hn
 have h3:BufH (upd g2 n1 (some (.cells (Zj e) .exact))) lb room (e::t):=h2.eq (Qc _ _ (Ne.symm hnlb))
 change Qa (.bool true) (kLd (upd g2 n1 (some (.cells (Zj e) .exact))) n1 (0+0) _) _
 generalize upd g2 n1 (some (.cells (Zj e) .exact))=g3 at x3 sg3 h3
 refine Jd rfl ?_
 refine Qb x3 rfl (Zae (Jd (by simpa using he) ?_))
 obtain ⟨L,f,hr⟩:=h3
 have hf:=hr.fl
 rw [Ze,Zb]
 refine Qb hr.hb (by rw [Nat.zero_add];exact Xa6 hr.len 1) ?_
 rw [Ze,Zb]
 refine Xd8 (by omega) (by omega) ?_
 rw [Zb,Int.toNat_natCast]
 have hL:L[f]? =some e:=by have:=hr.ati 0 e rfl;rwa [Nat.add_zero,Nat.mod_eq_of_lt hf] at this
 refine QB hr.hb rfl (by rw [Xc0 hr.len];omega) rfl ?_
 rw [show 0+0+f*5+4=f*5+4 by omega,XgR hr.len hL]
 refine Ja (Sub.refl _) (hK _ _ _ ((Chg.of_sub sg3).updE _) ⟨L.set f { e with sent:=true },f,by rw [List.length_set];exact hr.len,hf,hr.nl,?_,Xa _ _ _⟩)
 intro i x hx
 cases i with
 | zero=>
  cases hx
  rw [Nat.add_zero,Nat.mod_eq_of_lt hf]
  exact List.getElem?_set_self (by rw [hr.len];exact hf)
 | succ i=>
  have hi:=Zi (show t[i]? =some x from hx)
  have:=hr.nl
  rw [List.length_cons] at this
  rw [List.getElem?_set_ne (by omega)]
  exact hr.ati (i+1) x hx
end
end Go.Proofs.YtkdfaijmjmnhjaaGreat.Gen
namespace Go.Proofs.YtkdfaijmjmnhjaaGreat.Gen
open Go Go.Proofs.YtkdfaijmjmnhjaaGreat.Abs Go.RowKit
variable {g:G} {n:Nat}
section
variable {K:Cont} {a b:Int}
theorem Xe9 (hK: ∀n',K (.int .u64 (IntKind.u64.wrap (a+b))) g n'):AC ZA [.int .u64 a,.int .u64 b] g n K:=by
 refine ACalls.fold Xb ?_
 rw [←Jdh]
 simp only [Jdc,Jh]
 exact Ja (Sub.refl _) (hK _)
theorem Xfd (hK: ∀n',K (.int .u64 (IntKind.u64.wrap (a-b))) g n'):AC XH [.int .u64 a,.int .u64 b] g n K:=by
 refine ACalls.fold Xb ?_
 rw [←Xdf]
 simp only [Qc6,JaD]
 exact Ja (Sub.refl _) (hK _)
theorem Xfh (hK: ∀n',K (.int .u64 (IntKind.u64.wrap (BitVec.ofInt 64 a &&& BitVec.ofInt 64 b).toNat)) g n'):AC QN [.int .u64 a,.int .u64 b] g n K:=by
 refine ACalls.fold Xb ?_
 rw [←Jdg]
 simp only [QcW,Jb,JE,true_and]
 exact Ja (Sub.refl _) (hK _)
theorem XeW (hK: ∀n',K (.int .u64 (IntKind.u64.wrap (BitVec.ofInt 64 a ^^^ BitVec.ofInt 64 b).toNat)) g n'):AC ZX [.int .u64 a,.int .u64 b] g n K:=by
 refine ACalls.fold Xb ?_
 rw [←Qdj]
 simp only [Xc9,Jb,JE,true_and]
 exact Ja (Sub.refl _) (hK _)
theorem XeR (hb:0≤b) (hK: ∀n',K (.int .u64 (IntKind.u64.wrap (a*2^(min (b.tmod 64).toNat 64)))) g n'):AC Qab [.int .u64 a,.int .u64 b] g n K:=by
 refine ACalls.fold Xb ?_
 rw [←Zdj]
 simp only [Qdc,QaI]
 refine ⟨by decide,?_⟩
 refine ⟨trivial,Int.tmod_nonneg _ hb,?_⟩
 exact Ja (Sub.refl _) (hK _)
theorem XeV (hb:0≤b) (hK: ∀n',K (.int .u64 (a.fdiv (2^(min (b.tmod 64).toNat 64)))) g n'):AC Xao [.int .u64 a,.int .u64 b] g n K:=by
 refine ACalls.fold Xb ?_
 rw [←Zde]
 simp only [Jc5,QaI]
 refine ⟨by decide,?_⟩
 refine ⟨trivial,Int.tmod_nonneg _ hb,?_⟩
 exact Ja (Sub.refl _) (hK _)
def evF (f:FuncId):Value:= .agg #[.func (.func f) #[] #[]]
def ZfX:List (Int×FuncId):=[(2,ZA),(3,XH),(4,QN),(5,ZX),(6,Qab),(7,Xao)]
theorem ZgV {l:Nat} {k:Int} {f:FuncId} {ms:List (Int×FuncId)} {K:G→Prop} (h:g l=some (.map (MpE evF .i64 ms))) (k':upd g l (some (.map (MpE evF .i64 (Qcd ms k f)))) l=some (.map (MpE evF .i64 (Qcd ms k f)))→K (upd g l (some (.map (MpE evF .i64 (Qcd ms k f)))))):
  Xf [.nilFunc] [(0,none,.func (.func f) #[] #[])] fun c2=>ZaF .i64 (.map (some l)) (.int .i64 k) (.agg c2.toArray) g K:=by
 refine ⟨rfl,Nat.le_of_ble_eq_true rfl,?_⟩
 exact JfU (ev:=evF) (x:=f) h (k' (Xa _ _ _))
theorem QeS (hK: ∀l g' n',Sub g g'→g' l=some (.map (MpE evF .i64 ZfX))→K (.map (some l)) g' n'):AC QbF [] g n K:=by
 refine ACalls.fold Xb ?_
 rw [←Qd4]
 simp only [Xeb]
 intro hn
 have fr: ∀{g1:G} (b:Option Blk),Sub g g1→Sub g (upd g1 n b):=fun b s=>s.upd_fresh _ hn
 have s1:Sub g (upd g n (some (.map []))):=fr _ (Sub.refl _)
 have x1:upd g n (some (.map [])) n=some (.map (MpE evF .i64 [])):=Xa _ _ _
 generalize upd g n (some (.map []))=g1 at s1 x1
 refine ZgV x1 (fun x2=> ?_)
 have s2:=fr (some (.map (MpE evF .i64 (Qcd [] 2 ZA)))) s1
 generalize upd g1 n (some (.map (MpE evF .i64 (Qcd [] 2 ZA))))=g2 at s2 x2
 refine ZgV x2 (fun x3=> ?_)
 have s3:=fr (some (.map (MpE evF .i64 (Qcd (Qcd [] 2 ZA) 3 XH)))) s2
 generalize upd g2 n _=g3 at s3 x3
 refine ZgV x3 (fun x4=> ?_)
 have s4:=fr (some (.map (MpE evF .i64 (Qcd (Qcd (Qcd [] 2 ZA) 3 XH) 4 QN)))) s3
 generalize upd g3 n _=g4 at s4 x4
 refine ZgV x4 (fun x5=> ?_)
 have s5:=fr (some (.map (MpE evF .i64 (Qcd (Qcd (Qcd (Qcd [] 2 ZA) 3 XH) 4 QN) 5 ZX)))) s4
 generalize upd g4 n _=g5 at s5 x5
 refine ZgV x5 (fun x6=> ?_)
 have s6:=fr (some (.map (MpE evF .i64 (Qcd (Qcd (Qcd (Qcd (Qcd [] 2 ZA) 3 XH) 4 QN) 5 ZX) 6 Qab)))) s5
 generalize upd g5 n _=g6 at s6 x6
 refine ZgV x6 (fun x7=> ?_)
 have s7:=fr (some (.map (MpE evF .i64 (Qcd (Qcd (Qcd (Qcd (Qcd (Qcd [] 2 ZA) 3 XH) 4 QN) 5 ZX) 6 Qab) 7 Xao)))) s6
 exact Ja (Sub.refl _) (hK _ _ _ s7 x7)
theorem Qe7 (op:Int) (hb:0≤b) (hK: ∀g' n',Sub g g'→K (.tuple #[.int .u64 (if 2≤op∧op≤7 then JgU op a b else 0),.bool (decide (2≤op∧op≤7))]) g' n'):
  AC Qda [.int .i64 op,.int .u64 a,.int .u64 b] g n K:=by
 refine ACalls.fold Xb ?_
 rw [←Jfs]
 simp only [Jgs]
 refine QeS (fun l g1 n1 s1 x1=> ?_)
 by_cases hop:2≤op∧op≤7
 ·rw [if_pos hop,decide_eq_true hop] at hK
  have go: ∀f,Jgb ZfX op=some f→(∀g2 n2,Sub g g2→AC f [.int .u64 a,.int .u64 b] g2 n2 fun v g' n'=>v= .int .u64 (JgU op a b)∧g'=g2)→
    XbA .i64 (.map (some l)) (.int .i64 op) (.agg #[.nilFunc]) true g1 fun v13=>Xc v13 0 fun v14=>Xc v13 1 fun v15=>Zq [.nilFunc] .exact g1 n1 fun l8 g2 n8=>Zn v14 fun cg3=>
     cg3.length=1∧Xu g2 l8 0 cg3 fun g3=>kUn .not v15 fun v17=>Qa v17 (Jc K (.tuple #[(.int .u64 0),(.bool false)]) g3 n8) (kLd g3 l8 (0+0) fun v19=>Qbh AC v19 [.int .u64 a,.int .u64 b] g3 n8 fun v22 g4 n22=>Jc K (.tuple #[v22,(.bool true)]) g4 n22):=by
   intro f hf hc
   refine Zds (ev:=evF) x1 ?_
   rw [hf]
   show Xc (.tuple [evF f,.bool true].toArray) 0 _
   refine Jav rfl (Jav rfl ?_)
   intro hn
   have s2:=s1.trans ((Sub.refl g1).new hn (some (.cells [.nilFunc] .exact)))
   show Zn (.agg [Value.func (.func f) #[] #[]].toArray) _
   rw [Xe]
   refine ⟨rfl,Zw (Xa _ _ _) rfl (Nat.le_of_ble_eq_true rfl) (by simp [isCell]) ?_⟩
   have s3:=s2.upd_fresh (some (.cells (splice [.nilFunc] 0 [Value.func (.func f) #[] #[]]) .exact)) (s1.none hn)
   refine ZaK (Zc rfl ?_)
   refine Qb (Xa _ _ _) (show (splice [.nilFunc] 0 [Value.func (.func f) #[] #[]])[0]? =some (Value.func (.func f) #[] #[]) from rfl) ?_
   show AC f [.int .u64 a,.int .u64 b] _ _ _
   refine ACalls.mono Xb _ _ _ _ _ _ ?_ (hc _ _ s3)
   rintro v g' n' ⟨rfl,rfl⟩
   exact Ja (Sub.refl _) (hK _ _ s3)
  have h6:op=2∨op=3∨op=4∨op=5∨op=6∨op=7:=by omega
  rcases h6 with rfl|rfl|rfl|rfl|rfl|rfl
  ·exact go _ rfl fun g2 n2 _=>Xe9 fun _=>⟨rfl,rfl⟩
  ·exact go _ rfl fun g2 n2 _=>Xfd fun _=>⟨rfl,rfl⟩
  ·exact go _ rfl fun g2 n2 _=>Xfh fun _=>⟨rfl,rfl⟩
  ·exact go _ rfl fun g2 n2 _=>XeW fun _=>⟨rfl,rfl⟩
  ·exact go _ rfl fun g2 n2 _=>XeR hb fun _=>⟨rfl,rfl⟩
  ·exact go _ rfl fun g2 n2 _=>XeV hb fun _=>⟨rfl,rfl⟩
 ·rw [if_neg hop,decide_eq_false hop] at hK
  have hno:Jgb ZfX op=none:=by
   have: ∀(ms:List (Int×FuncId)),(∀p∈ms,p.1≠op)→Jgb ms op=none:=by
    intro ms
    induction ms with
    | nil=>intro _;rfl
    | cons p ms ih=>
     intro h
     obtain ⟨k,f⟩:=p
     have h1:=h (k,f) (List.mem_cons_self ..)
     simp only [Jgb]
     rw [if_neg (fun e=>h1 e.symm)]
     exact ih (fun q hq=>h q (List.mem_cons_of_mem _ hq))
   refine this _ (fun p hp=> ?_)
   simp only [ZfX,List.mem_cons,List.not_mem_nil,or_false] at hp
   rcases hp with rfl|rfl|rfl|rfl|rfl|rfl<;>simp only<;>omega
  refine Zds (ev:=evF) x1 ?_
  rw [hno]
  show Xc (.tuple [Value.agg #[.nilFunc],.bool false].toArray) 0 _
  refine Jav rfl (Jav rfl ?_)
  intro hn
  have s2:=s1.trans ((Sub.refl g1).new hn (some (.cells [.nilFunc] .exact)))
  show Zn (.agg [Value.nilFunc].toArray) _
  rw [Xe]
  refine ⟨rfl,Zw (Xa _ _ _) rfl (Nat.le_of_ble_eq_true rfl) (by simp [isCell]) ?_⟩
  have s3:=s2.upd_fresh (some (.cells (splice [.nilFunc] 0 [Value.nilFunc]) .exact)) (s1.none hn)
  exact ZaK (Jd rfl (Ja (Sub.refl _) (hK _ _ s3)))
theorem ZdY (op:Int) (hK: ∀c n',K (.tuple #[.bool (ZdE op a b),.bool c]) g n'):AC Qb5 [.int .i64 op,.int .u64 a,.int .u64 b] g n K:=by
 refine ACalls.fold Xb ?_
 rw [←Xei]
 simp only [ZeP]
 have fin: ∀(x c:Bool) (m:Nat),x=ZdE op a b→Jc K (.tuple #[.bool x,.bool c]) g m:=fun x c m h=>by subst h;exact Ja (Sub.refl _) (hK _ _)
 refine Zae (Xj (fun h=>fin _ _ _ (by unfold ZdE;rw [if_pos h])) (fun h1=> ?_))
 refine Zae (Xj (fun h=>Zae (fin _ _ _ (by unfold ZdE;rw [if_neg h1,if_pos h]))) (fun h2=> ?_))
 refine Zae (Xj (fun h=>QbE (fin _ _ _ (by unfold ZdE;rw [if_neg h1,if_neg h2,if_pos h]))) (fun h3=> ?_))
 refine Zae (Xj (fun h=>QdN (fin _ _ _ (by unfold ZdE;rw [if_neg h1,if_neg h2,if_neg h3,if_pos h]))) (fun h4=> ?_))
 exact fin _ _ _ (by unfold ZdE;rw [if_neg h1,if_neg h2,if_neg h3,if_neg h4])
theorem JfW (hK: ∀n',K (.int .u64 (JgQ a b)) g n'):AC Qct [.int .u64 a,.int .i64 b] g n K:=by
 refine ACalls.fold Xb ?_
 rw [←Qfd]
 simp only [JfI,Zax,Jh]
 exact Ja (Sub.refl _) (hK _)
theorem XgH {L addr:Int} (hL:1≤L∧L≤64) (ha:0≤addr) (hK1:addrOf L addr=none→ ∀n',K (.tuple #[.int .i64 0,.int .i64 0,.int .i64 12]) g n') (hK2: ∀l w,addrOf L addr=some (l,w)→ ∀n',K (.tuple #[.int .i64 l,.int .i64 w,.int .i64 0]) g n'):
  AC Zcy [.int .i64 L,.int .u64 addr] g n K:=by
 refine ACalls.fold Xb ?_
 rw [←JeQ]
 simp only [Xfv]
 refine QdN (Xj (fun h=>by omega) (fun _=>Jf5 (Xj (fun h=>by omega) (fun _=> ?_))))
 rw [QaI]
 refine ⟨by decide,?_⟩
 rw [Int.tmod_eq_emod_of_nonneg ha]
 refine QbE (Xj (fun h=> ?_) (fun h=> ?_))
 ·exact Ja (Sub.refl _) (hK1 (by unfold addrOf;rw [if_neg (fun k=>h k.1)]) _)
 ·rw [Zax,Jdf (by omega) (by omega),Jce,Jdf (by omega) (by omega)]
  refine Xem (Xj (fun h2=> ?_) (fun h2=> ?_))
  ·exact Ja (Sub.refl _) (hK1 (by unfold addrOf;rw [if_neg (fun k=>by omega)]) _)
  ·rw [QeE]
   refine ⟨by decide,?_⟩
   rw [Int.tdiv_eq_ediv_of_nonneg ha,Jdf (by omega) (by omega),Zax,Jf (by omega) (by omega),QaI]
   refine ⟨by decide,?_⟩
   rw [Int.tmod_eq_emod_of_nonneg ha,QeE]
   refine ⟨by decide,?_⟩
   rw [Int.tdiv_eq_ediv_of_nonneg (by omega),Jdf (by omega) (by omega),Zax,Jf (by omega) (by omega)]
   exact Ja (Sub.refl _) (hK2 _ _ (by unfold addrOf;rw [if_pos ⟨by omega,by omega⟩]) _)
end
end Go.Proofs.YtkdfaijmjmnhjaaGreat.Gen
namespace Go.Proofs.YtkdfaijmjmnhjaaGreat.Gen
open Go Go.Proofs.YtkdfaijmjmnhjaaGreat.Abs Go.RowKit
variable {g:G} {n:Nat}
section
variable {K:Cont}
theorem Xf7 {i:Ins} (h1:22<i.op) (hK: ∀g' n',Sub g g'→K (.bool false) g' n'):AC Jbp [.agg (encI i).toArray] g n K:=by
 refine ACalls.fold Xb ?_
 rw [←Jc8]
 simp only [XdL,Xe]
 intro hn
 have hu:Sub g (upd g n (some (.cells (encI i) .exact))):=(Sub.refl g).new hn _
 have hb:upd g n (some (.cells (encI i) .exact)) n=some (.cells (encI i) .exact):=Xa _ _ _
 generalize upd g n (some (.cells (encI i) .exact))=g1 at hu hb
 refine Qb hb rfl ?_
 have hd:decide (0≤i.op∧i.op≤22)=false:=decide_eq_false (by omega)
 refine ACalls.fold Xb ?_
 rw [←Ze5]
 simp only [QfS]
 refine XdI (fun n2=> ?_)
 rw [hd]
 refine ZaK (Jd rfl (Ja (Sub.refl _) ?_))
 refine Qb hb rfl (XdI (fun n3=> ?_))
 rw [hd]
 refine ZaK (Jd rfl ?_)
 simp only [Xas]
 exact Jd rfl (Ja (Sub.refl _) (hK _ _ hu))
theorem Xhl {x:Int} (h0:0≤x) (h1:x<18446744073709551616):IntKind.u64.wrap ((BitVec.ofInt 64 x &&& BitVec.ofInt 64 15).toNat:Nat)=x%16:=by
 rw [BitVec.toNat_and,BitVec.toNat_ofInt]
 have hx:(x%((2^64:Nat):Int)).toNat=x.toNat:=by
  rw [Int.emod_eq_of_lt h0 (by simpa using h1)]
 rw [hx]
 have h15:(BitVec.ofInt 64 15).toNat=2^4-1:=by decide
 rw [h15,Nat.and_two_pow_sub_one_eq_mod]
 rw [Jdf (by omega) (by omega)]
 omega
theorem JfB {x:Int} {K:Value→Prop} (h0:0≤x) (h1:x<18446744073709551616) (k:K (.int .u64 (x%16))):Jb .int .and (.int .u64 x) (.int .u64 15) K:=by
 simp only [Jb,JE,true_and]
 rw [show IntKind.u64.bits=64 from rfl,Xhl h0 h1];exact k
theorem XgW {kk:IntKind} {x s:Int} {m:Nat} {K:Value→Prop} (hs:0≤s) (hm:min s.toNat kk.bits=m) (k:K (.int kk (x/(2^m)))):Jb .int .shr (.int kk x) (.int .u64 s) K:=by
 refine ⟨trivial,hs,?_⟩
 rw [hm,Int.fdiv_eq_ediv_of_nonneg _ (Int.pow_nonneg (by decide))];exact k
def Xw:Ins:=⟨0,0,0,0,0⟩
theorem stI {l:Nat} {z e:Ins} {K:G→Prop} (h:g l=some (.cells (encI z) .exact)) (k:upd g l (some (.cells (encI e) .exact)) l=some (.cells (encI e) .exact)→K (upd g l (some (.cells (encI e) .exact)))):(encI e).length=5∧Xu g l 0 (encI e) K:=by
 refine ⟨XZ _,Zw h rfl (by rw [XZ,XZ];decide) (JbB _) ?_⟩
 rw [Zz (by rw [XZ,XZ])]
 exact k (Xa _ _ _)
theorem ZgN {a b c d e:Int} {K:List Value→Prop} (k:K (encI ⟨a,b,c,d,e⟩)):Xf (encI Xw) [(0,none,.int .i64 a),(1,none,.int .i64 b),(2,none,.int .i64 c),(3,none,.int .i64 d),(4,none,.int .i64 e)] K:=by
 refine ⟨rfl,by decide,rfl,Nat.le_of_ble_eq_true rfl,rfl,Nat.le_of_ble_eq_true rfl,rfl,Nat.le_of_ble_eq_true rfl,rfl,Nat.le_of_ble_eq_true rfl,k⟩
def Qec (u:Int):Ins:=(decode u).getD Xw
def Jgz (u:Int):Int:=if (decode u).isSome then 0 else 11
theorem Zee {u:Int} (h0:0≤u) (h1:u<18446744073709551616) (hK: ∀g' n',Sub g g'→K (.tuple #[.agg (encI (Qec u)).toArray,.int .i64 (Jgz u)]) g' n'):AC Xbp [.int .u64 u] g n K:=by
 refine ACalls.fold Xb ?_
 rw [←QdL]
 simp only [Qdt,Zax,Jp]
 intro hn
 have s1:Sub g (upd g n (some (.cells (encI Xw) .exact))):=(Sub.refl g).new hn _
 have x1:upd g n (some (.cells (encI Xw) .exact)) n=some (.cells (encI Xw) .exact):=Xa _ _ _
 rw [show IntKind.u8.wrap u=u%256 from rfl,show IntKind.u32.wrap u=u%4294967296 from rfl,Jf (a:=u%256) (by omega) (by omega)]
 refine XgW (m:=8) (by decide) rfl (JfB (by omega) (by omega) ?_)
 refine XgW (m:=12) (by decide) rfl (JfB (by omega) (by omega) ?_)
 refine XgW (m:=16) (by decide) rfl (JfB (by omega) (by omega) ?_)
 refine XgW (m:=32) (by decide) rfl ?_
 rw [show (2:Int)^8=256 from rfl,show (2:Int)^12=4096 from rfl,show (2:Int)^16=65536 from rfl,show (2:Int)^32=4294967296 from rfl]
 rw [Jf (a:=u/256%16) (by omega) (by omega),Jf (a:=u/4096%16) (by omega) (by omega),Jf (a:=u/65536%16) (by omega) (by omega)]
 refine ZgN ?_
 change Zq (encI Xw) .exact (upd g n (some (.cells (encI Xw) .exact))) (n+1) _
 generalize upd g n (some (.cells (encI Xw) .exact))=g1 at s1 x1
 intro hn2
 have s2:=s1.trans ((Sub.refl g1).new hn2 (some (.cells (encI Xw) .exact)))
 have x2:upd g1 (n+1) (some (.cells (encI Xw) .exact)) (n+1)=some (.cells (encI Xw) .exact):=Xa _ _ _
 have y2:=((Sub.refl g1).new hn2 (some (.cells (encI Xw) .exact))).live x1
 generalize upd g1 (n+1) (some (.cells (encI Xw) .exact))=g2 at s2 x2 y2
 rw [Xe]
 refine stI (e:=Xec u) x2 (fun x3=> ?_)
 have s3:=s2.upd_fresh (some (.cells (encI (Xec u)) .exact)) (s1.none hn2)
 have y3:upd g2 (n+1) (some (.cells (encI (Xec u)) .exact)) n=some (.cells (encI Xw) .exact):=by rw [Qc _ _ (by omega)];exact y2
 generalize upd g2 (n+1) (some (.cells (encI (Xec u)) .exact))=g3 at s3 x3 y3
 refine XgW (m:=20) (by decide) rfl ?_
 rw [show (2:Int)^20=1048576 from rfl]
 have bad: ∀(g4:G) (m:Nat),Sub g g4→g4 n=some (.cells (encI Xw) .exact)→decode u=none→Zn (.agg (encI Xw).toArray) fun cg4=>cg4.length=5∧Xu g4 n 0 cg4 fun g4=>Zo g4 n 0 5 fun r0=>Jc K (.tuple #[(.agg r0.toArray),(.int .i64 11)]) g4 m:=by
  intro g4 m s4 y4 hd
  rw [Xe]
  refine stI y4 (fun y5=>ldI y5 ?_)
  have e1:Qec u=Xw:=by unfold Qec;rw [hd];rfl
  have e2:Jgz u=11:=by unfold Jgz;rw [hd];rfl
  rw [e1,e2] at hK
  exact Ja (Sub.refl _) (hK _ _ (s4.upd_fresh _ hn))
 refine QbE (Xj (fun hc=> ?_) (fun hc=> ?_))
 ·exact bad _ _ s3 y3 (by unfold decode;rw [if_neg (fun k=>hc k.1)])
 ·have hc':u%4294967296/1048576=0:=by simpa using hc
  refine ldI x3 ?_
  have gd: ∀(b:Bool),(b=true↔(Xec u).op≤22∧Xz (Xec u)=true)→ ∀g5 m,Sub g3 g5→kUn .not (.bool b) fun v31=>Qa v31 (Zn (.agg (encI Xw).toArray) fun cg4=>cg4.length=5∧Xu g5 n 0 cg4 fun g4=>Zo g4 n 0 5 fun r0=>Jc K (.tuple #[(.agg r0.toArray),(.int .i64 11)]) g4 m)
    (Zo g5 (n+1) 0 5 fun c34=>Zn (.agg c34.toArray) fun cg7=>cg7.length=5∧Xu g5 n 0 cg7 fun g7=>Zo g7 n 0 5 fun r0=>Jc K (.tuple #[(.agg r0.toArray),(.int .i64 0)]) g7 m):=by
   intro b hb g5 m s5
   have s6:=s3.trans s5
   refine ZaK (Qu (fun hx=> ?_) (fun hx=> ?_))
   ·refine bad _ _ s6 (s5.live y3) ?_
    have:b=false:=by simpa using hx
    unfold decode
    rw [if_neg]
    rintro ⟨_,k⟩
    rw [hb.2 k] at this;cases this
   ·have hb1:b=true:=by simpa using hx
    have hd:decode u=some (Xec u):=by
     unfold decode
     rw [if_pos ⟨hc',hb.1 hb1⟩]
    have e1:Qec u=Xec u:=by unfold Qec;rw [hd];rfl
    have e2:Jgz u=0:=by unfold Jgz;rw [hd];rfl
    rw [e1,e2] at hK
    refine ldI (s5.live x3) ?_
    rw [Xe]
    refine stI (s5.live y3) (fun y5=>ldI y5 ?_)
    exact Ja (Sub.refl _) (hK _ _ (s6.upd_fresh _ hn))
  by_cases h22:(Xec u).op≤22
  ·exact Xfe (Qd3 h0) h22 (fun g5 m s5=>gd _ (by simp [h22]) _ _ s5)
  ·exact Xf7 (by omega) (fun g5 m s5=>gd _ (by simp [h22]) _ _ s5)
end
end Go.Proofs.YtkdfaijmjmnhjaaGreat.Gen
namespace Go.Proofs.YtkdfaijmjmnhjaaGreat.Gen
open Go Go.Proofs.YtkdfaijmjmnhjaaGreat.Abs Go.RowKit
variable {g:G} {n:Nat}
def coC (w:CW) (C:Cr):List Value:=[.int .i64 C.id]++C.r.map (.int .u64 ·)++[.int .i64 C.place,.slice (some ⟨w.lp,0,none⟩) C.us.length C.us.length,ptr w.lb 0,.int .i64 C.waits,.bool C.runs]
structure Cd where
 done:Bool
 u:Int
def J4 (c:Cd):List Value:=[.int .u32 (if c.done then 1 else 0),.int .i32 0,.int .u32 0,.int .u64 c.u]++encI (if c.done then Qec c.u else Xw)++[.bool (c.done&&(decode c.u).isSome)]
theorem XbE (c:Cd):(J4 c).length=10:=rfl
section
variable {w:CW} {C:Cr}
theorem Xer (h:C.r.length=8):(coC w C).length=14:=by simp [coC,h]
theorem Qf0 (h:C.r.length=8) (i:Nat):(coC w C)[9+i]? =[Value.int .i64 C.place,.slice (some ⟨w.lp,0,none⟩) C.us.length C.us.length,ptr w.lb 0,.int .i64 C.waits,.bool C.runs][i]? :=by
 unfold coC
 rw [List.getElem?_append_right (by simp [h])]
 congr 1;simp [h]
theorem JgH (h:C.r.length=8) {j:Int} (h0:0≤j) (h1:j<8):(coC w C)[1+j.toNat]? =some (.int .u64 (C.reg j)):=by
 unfold coC
 rw [List.getElem?_append_left (by simp [h];omega),List.getElem?_append_right (by simp)]
 rw [show 1+j.toNat-[Value.int .i64 C.id].length=j.toNat by simp,List.getElem?_map]
 unfold Cr.reg
 rw [List.getElem?_eq_getElem (by omega)]
 rfl
theorem Xge (h:C.r.length=8) {j:Int} (h0:0≤j) (h1:j<8) (v:Int):(coC w C).set (1+j.toNat) (.int .u64 v)=coC w (C.setR j v):=by
 unfold coC Cr.setR
 rw [List.set_append_left _ _ (by simp [h];omega),List.set_append_right _ _ (by simp)]
 rw [show 1+j.toNat-[Value.int .i64 C.id].length=j.toNat by simp,List.map_set]
theorem ZgS (h:C.r.length=8) (i:Nat) (v:Value):(coC w C).set (9+i) v=[Value.int .i64 C.id]++C.r.map (.int .u64 ·)++[Value.int .i64 C.place,.slice (some ⟨w.lp,0,none⟩) C.us.length C.us.length,ptr w.lb 0,.int .i64 C.waits,.bool C.runs].set i v:=by
 unfold coC
 rw [List.set_append_right _ _ (by simp [h])]
 congr 2;simp [h]
end
structure CoH (o:Col Cl) (g:G) (w:CW) (C:Cr):Prop where
 rl:C.r.length=8
 oc:o w.lc=none
 op:o w.lp=none
 ob:o w.lb=none
 n1:w.lc≠w.lp
 n2:w.lc≠w.lb
 n3:w.lp≠w.lb
 hc:g w.lc=some (.cells (coC w C) .exact)
 hp: ∃ds:List Cd,ds.map (·.u)=C.us∧g w.lp=some (.cells (ds.map J4).flatten .exact)
 hb:BufH g w.lb C.room C.b
section
variable {o:Col Cl} {w:CW} {C:Cr}
theorem CoH.keep {o':Col Cl} {g':G} (h:CoH o g w C) (k: ∀l b,w.mem l→o l=none→g l=some b→o' l=none∧g' l=some b):CoH o' g' w C:=by
 obtain ⟨ds,e1,e2⟩:=h.hp
 obtain ⟨L,f,hr⟩:=id h.hb
 have k1:=k _ _ (.inl rfl) h.oc h.hc
 have k2:=k _ _ (.inr (.inl rfl)) h.op e2
 have k3:=k _ _ (.inr (.inr rfl)) h.ob hr.hb
 exact ⟨h.rl,k1.1,k2.1,k3.1,h.n1,h.n2,h.n3,k1.2,⟨ds,e1,k2.2⟩,h.hb.eq (k3.2.trans hr.hb.symm)⟩
theorem CoH.unc {o':Col Cl} {g':G} (h:CoH o g w C) (k:Sub (unc o g) (unc o' g')):CoH o' g' w C:=h.keep fun _ _ _ ho hg=>XcM ho hg k
theorem CoH.mono {g':G} (h:CoH o g w C) (k:Sub g g'):CoH o g' w C:=h.keep fun _ _ _ ho hg=>⟨ho,k.live hg⟩
theorem CoH.setC {C':Cr} (h:CoH o g w C) (h1:C'.r.length=8) (h2:C'.us=C.us) (h3:C'.room=C.room) (h4:C'.b=C.b):CoH o (upd g w.lc (some (.cells (coC w C') .exact))) w C':=by
 obtain ⟨ds,e1,e2⟩:=h.hp
 refine ⟨h1,h.oc,h.op,h.ob,h.n1,h.n2,h.n3,Xa _ _ _,⟨ds,by rw [h2];exact e1,by rw [Qc _ _ (Ne.symm h.n1)];exact e2⟩,?_⟩
 rw [h3,h4]
 exact h.hb.eq (Qc _ _ (Ne.symm h.n2))
theorem CoH.buf {g':G} {b':List SE} (h:CoH o g w C) (hc:Chg (fun x=>x=w.lb) g g') (hb:BufH g' w.lb C.room b'):CoH o g' w { C with b:=b' }:=by
 obtain ⟨ds,e1,e2⟩:=h.hp
 exact ⟨h.rl,h.oc,h.op,h.ob,h.n1,h.n2,h.n3,hc.live h.n2 h.hc,⟨ds,e1,hc.live h.n3 e2⟩,hb⟩
theorem CoH.code {ds:List Cd} (h:CoH o g w C) (hd:ds.map (·.u)=C.us):CoH o (upd g w.lp (some (.cells (ds.map J4).flatten .exact))) w C:=
 ⟨h.rl,h.oc,h.op,h.ob,h.n1,h.n2,h.n3,by rw [Qc _ _ h.n1];exact h.hc,⟨ds,hd,Xa _ _ _⟩,h.hb.eq (Qc _ _ (Ne.symm h.n3))⟩
end
def xC (w:CW) (ls:Nat) (i:Ins) (v:Value):List Value:=[ptr w.lc 0,ptr ls 0]++encI i++[v]
def CW.N (w:CW) (lx:Nat):List Nat:=[lx,w.lc,w.lp,w.lb]
structure StH (F:G) (o:Col Cl) (g:G) (lx ls:Nat) (W:XaS) (w:CW) (S:Sys) (C:Cr) (i:Ins) (evs:List Evt):Prop where
 sys:SysH o g ls W S
 co:CoH o g w C
 ox:o lx=none
 nx: ¬w.mem lx
 fx:F lx=none
 fr:Sub F (un w o g)
 hx: ∃v,g lx=some (.cells (xC w ls i v) .exact)∧OutH JaM 5 F (w.N lx) o g v evs
section
variable {F:G} {o:Col Cl} {lx ls:Nat} {W:XaS} {w:CW} {S:Sys} {C:Cr} {i:Ins} {evs:List Evt} {K:Cont}
theorem StH.sysop {o':Col Cl} {g':G} {W':XaS} {S':Sys} (h:StH F o g lx ls W w S C i evs) (k:Sub (unc o g) (unc o' g')) (hs:SysH o' g' ls W' S'):StH F o' g' lx ls W' w S' C i evs:=by
 obtain ⟨v,hx,ho⟩:=h.hx
 have k1:=XcM h.ox hx k
 exact ⟨hs,h.co.unc k,k1.1,h.nx,h.fx,h.fr.trans (QaW k),v,k1.2,ho.unc k⟩
theorem StH.mono {g':G} (h:StH F o g lx ls W w S C i evs) (k:Sub g g'):StH F o g' lx ls W w S C i evs:=h.sysop (Sub.uncs h.sys.live k) (h.sys.mono k)
theorem StH.lcne (h:StH F o g lx ls W w S C i evs):lx≠w.lc:=fun e=>h.nx (.inl e)
theorem StH.setC {C':Cr} (h:StH F o g lx ls W w S C i evs) (h1:C'.r.length=8) (h2:C'.us=C.us) (h3:C'.room=C.room) (h4:C'.b=C.b):StH F o (upd g w.lc (some (.cells (coC w C') .exact))) lx ls W w S C' i evs:=by
 obtain ⟨v,hx,ho⟩:=h.hx
 exact ⟨h.sys.same (Qci h.co.oc _),h.co.setC h1 h2 h3 h4,h.ox,h.nx,h.fx,by rw [Qgo (.inl rfl)];exact h.fr,v,by rw [Qc _ _ h.lcne];exact hx,ho.upd (by simp [CW.N])⟩
theorem JeP {X:Nat→Prop} {g':G} (hL:Live o g) (hc:Chg X g g') (hX: ∀l,X l→o l=none):Same o g g':=fun l c e=>by
 obtain ⟨b,hb⟩:=hL l c e
 rw [hb]
 exact hc.live (fun h=>by rw [hX l h] at e;cases e) hb
theorem Xgs {X:Nat→Prop} {g':G} (hF:Sub F (un w o g)) (hc:Chg X g g') (hX: ∀l,X l→w.mem l):Sub F (un w o g'):=fun l=>by
 cases e:F l with
 | none=>exact .inl rfl
 | some b=>
  obtain ⟨h1,h2,h3⟩:=Zbn (hF.live e)
  refine .inr ?_
  rw [Jc7 h1 h2,hc.live (fun h=>h1 (hX l h)) h3]
theorem StH.buf {g':G} {b':List SE} (h:StH F o g lx ls W w S C i evs) (hc:Chg (fun x=>x=w.lb) g g') (hb:BufH g' w.lb C.room b'):StH F o g' lx ls W w S { C with b:=b' } i evs:=by
 obtain ⟨v,hx,ho⟩:=h.hx
 refine ⟨h.sys.same (JeP h.sys.live hc (fun l e=>by rw [e];exact h.co.ob)),h.co.buf hc hb,h.ox,h.nx,h.fx,Xgs h.fr hc (fun l e=> .inr (.inr e)),v,hc.live (fun e=>h.nx (.inr (.inr e))) hx,?_⟩
 refine ho.keep fun l b hl ho' hg=>⟨ho',hc.live (fun e=>hl ?_) hg⟩
 rw [e];simp [CW.N]
theorem StH.ldx (h:StH F o g lx ls W w S C i evs) {k:Nat} {v:Value} {K:Value→Prop} (hk:([ptr w.lc 0,ptr ls 0]++encI i)[k]? =some v) (kk:K v):kLd g lx (0+k) K:=by
 obtain ⟨v',hx,_⟩:=h.hx
 have hlt:=Zi hk
 refine Qb hx (show (xC w ls i v')[0+k]? =some v from ?_) kk
 rw [Nat.zero_add]
 unfold xC
 rw [List.getElem?_append_left hlt]
 exact hk
theorem StH.ldc (h:StH F o g lx ls W w S C i evs) {K:Value→Prop} (kk:K (ptr w.lc 0)):kLd g lx (0+0) K:=h.ldx rfl kk
theorem StH.lds (h:StH F o g lx ls W w S C i evs) {K:Value→Prop} (kk:K (ptr ls 0)):kLd g lx (0+1) K:=h.ldx rfl kk
theorem CoH.ld (h:CoH o g w C) {k:Nat} {v:Value} {K:Value→Prop} (hk:(coC w C)[k]? =some v) (kk:K v):kLd g w.lc (0+k) K:=Qb h.hc (by rw [Nat.zero_add];exact hk) kk
theorem CoH.ldid (h:CoH o g w C) {K:Value→Prop} (kk:K (.int .i64 C.id)):kLd g w.lc (0+0) K:=h.ld rfl kk
theorem CoH.ldt (h:CoH o g w C) {k:Nat} {v:Value} {K:Value→Prop} (hk:[Value.int .i64 C.place,.slice (some ⟨w.lp,0,none⟩) C.us.length C.us.length,ptr w.lb 0,.int .i64 C.waits,.bool C.runs][k]? =some v) (kk:K v):kLd g w.lc (0+(9+k)) K:=h.ld ((Qf0 h.rl k).trans hk) kk
theorem CoH.st (h:CoH o g w C) {k:Nat} {v:Value} {C':Cr} {K:G→Prop} (hk:k<5) (hv:isCell v=true) (he:[Value.int .i64 C.id]++C.r.map (.int .u64 ·)++[Value.int .i64 C.place,.slice (some ⟨w.lp,0,none⟩) C.us.length C.us.length,ptr w.lb 0,.int .i64 C.waits,.bool C.runs].set k v=coC w C')
  (kk:K (upd g w.lc (some (.cells (coC w C') .exact)))):kSt g w.lc (0+(9+k)) v K:=by
 refine QB h.hc rfl (by rw [Xer h.rl];omega) hv ?_
 rw [Nat.zero_add,ZgS h.rl,he];exact kk
theorem ZaL (h:StH F o g lx ls W w S C i evs) (hp: -1≤C.place∧C.place≤2147483648) (hK: ∀v g' n',StH F o g' lx ls W w S C.next i evs→K v g' n'):AC Xq [ptr lx 0] g n K:=by
 refine ACalls.fold Xb ?_
 rw [←Jbd]
 simp only [Xa5,Ze,Zb]
 refine h.ldc ?_
 simp only [Ze,Zb]
 refine h.co.ldt (k:=0) rfl ?_
 rw [Jh,Jf (by omega) (by omega)]
 refine h.co.st (k:=0) (C':=C.next) (by decide) rfl rfl ?_
 exact Ja (Sub.refl _) (hK _ _ _ (h.setC h.co.rl rfl rfl rfl))
theorem JgI {a b c d e:Int} {K:List Value→Prop} (k:K (JaM ⟨a,b,c,d,e⟩)):Xf [.int .i64 0,.int .i64 0,.int .i64 0,.int .i64 0,.int .u64 0] [(0,none,.int .i64 a),(1,none,.int .i64 b),(2,none,.int .i64 c),(3,none,.int .i64 d),(4,none,.int .u64 e)] K:=
 ⟨rfl,by decide,rfl,Nat.le_of_ble_eq_true rfl,rfl,Nat.le_of_ble_eq_true rfl,rfl,Nat.le_of_ble_eq_true rfl,rfl,Nat.le_of_ble_eq_true rfl,k⟩
theorem JeE {e:Evt} {K:List Value→Prop} (k:K (JaM e)):Xf (reps 1 [.int .i64 0,.int .i64 0,.int .i64 0,.int .i64 0,.int .u64 0]) [(0,(some 5),(.agg (JaM e).toArray))] K:=⟨rfl,by decide,k⟩
theorem J3 (h:StH F o g lx ls W w S C i evs) (hl:evs.length<1000) (kind line word val:Int) (hK: ∀v g' n',StH F o g' lx ls W w S C i (evs++[C.ev kind line word val])→K v g' n'):
  AC Ql [ptr lx 0,.int .i64 kind,.int .i64 line,.int .i64 word,.int .u64 val] g n K:=by
 refine ACalls.fold Xb ?_
 rw [←Zcc]
 simp only [QbB,Ze,Zb]
 obtain ⟨v,hx,ho⟩:=id h.hx
 refine Qb hx (show (xC w ls i v)[0+7]? =some v from rfl) ?_
 refine h.ldc ?_
 simp only [Ze,Zb]
 refine h.co.ldid (JgI (JeE ?_))
 intro hn
 have s1:=(Sub.refl g).new hn (some (.cells (JaM ⟨kind,C.id,line,word,val⟩) .exact))
 have x1:upd g n (some (.cells (JaM ⟨kind,C.id,line,word,val⟩) .exact)) n=some (.cells (JaM ⟨kind,C.id,line,word,val⟩) .exact):=Xa _ _ _
 have hnx:n≠lx:=fun e=>by rw [e,hx] at hn;cases hn
 have h1:=h.mono s1
 have ho1:OutH JaM 5 F (w.N lx) o (upd g n (some (.cells (JaM ⟨kind,C.id,line,word,val⟩) .exact))) v evs:=ho.new hn
 have hx1:=s1.live hx
 refine ⟨Qc _ _ (Ne.symm hnx),?_⟩
 generalize upd g n (some (.cells (JaM ⟨kind,C.id,line,word,val⟩) .exact))=g1 at s1 x1 h1 ho1 hx1
 obtain ⟨ds,e1,e2⟩:=h1.co.hp
 obtain ⟨L,f,hr⟩:=id h1.co.hb
 refine ho1.append (ys:=[C.ev kind line word val]) ZY h1.sys.live ?_ ?_ (Sl.one (ZY _) x1) Xck (by decide) (by rw [List.length_singleton];omega) (by rw [List.length_singleton];omega) (fun v' g2 n2 k1 k2 ho2=> ?_)
 ·intro l hl
  simp only [CW.N,List.mem_cons,List.not_mem_nil,or_false] at hl
  rcases hl with rfl|rfl|rfl|rfl
  ·exact ⟨_,hx1⟩
  ·exact ⟨_,h1.co.hc⟩
  ·exact ⟨_,e2⟩
  ·exact ⟨_,hr.hb⟩
 ·intro l b hF
  exact ⟨_,(Zbn (h1.fr.live hF)).2.2⟩
 have hx2:g2 lx=some (.cells (xC w ls i v) .exact):=(k1 lx (.inl (by simp [CW.N]))).trans hx1
 have memN: ∀l,w.mem l→l∈w.N lx:=by
  rintro l (rfl|rfl|rfl)<;>simp [CW.N]
 refine QB hx2 rfl (by simp [xC,encI]) ho2.cellOk ?_
 have hset:(xC w ls i v).set (0+7) v'=xC w ls i v':=rfl
 rw [hset]
 refine Ja (Sub.refl _) (hK _ _ _ ⟨?_,?_,h.ox,h.nx,h.fx,?_,v',Xa _ _ _,ho2.upd (by simp [CW.N])⟩)
 ·refine (h1.sys.same (g':=g2) (fun l c e=>k1 l (.inr (.inr (by rw [e];simp))))).same (Qci h.ox _)
 ·refine (h1.co.keep (o':=o) (g':=g2) (fun l b hm ho' hg=>⟨ho',(k1 l (.inl (memN l hm))).trans hg⟩)).keep (fun l b hm ho' hg=>⟨ho',?_⟩)
  rw [Qc _ _ (fun e=>h.nx (by rw [←e];exact hm))];exact hg
 ·refine QdC (fun l=> ?_) h.fx _
  cases e:F l with
  | none=>exact .inl rfl
  | some b=>
   obtain ⟨q1,q2,q3⟩:=Zbn (h1.fr.live e)
   refine .inr ?_
   rw [Jc7 q1 q2,k1 l (.inr (.inl (by rw [e];simp))),q3]
theorem JdV (h:StH F o g lx ls W w S C i evs) (hl:evs.length<1000) (hK: ∀v g' n',StH F o g' lx ls W w S { C with runs:=false } i (evs++[C.ev 10 0 0 0])→K v g' n'):AC Qak [ptr lx 0] g n K:=by
 refine ACalls.fold Xb ?_
 rw [←Jcx]
 simp only [ZbW]
 refine J3 h hl _ _ _ _ (fun v g1 n1 h1=> ?_)
 simp only [Ze,Zb]
 refine h1.ldc ?_
 simp only [Ze,Zb]
 refine h1.co.st (k:=4) (C':={ C with runs:=false }) (by decide) rfl rfl ?_
 exact Ja (Sub.refl _) (hK _ _ _ (h1.setC h1.co.rl rfl rfl rfl))
theorem Jdt (h:StH F o g lx ls W w S C i evs) (hK: ∀n',K (.bool C.still) g n'):AC Zad [ptr lx 0] g n K:=by
 refine ACalls.fold Xb ?_
 rw [←Xcd]
 simp only [ZbL,Ze,Zb]
 refine h.ldc ?_
 simp only [Ze,Zb]
 refine h.co.ldt (k:=2) rfl ?_
 refine Jcm h.co.hb (fun n1=> ?_)
 refine Zae (Xj (fun h1=> ?_) (fun h1=> ?_))
 ·refine h.ldc ?_
  simp only [Ze,Zb]
  refine h.co.ldt (k:=3) rfl (Zae ?_)
  have hb:C.b=[]:=List.eq_nil_of_length_eq_zero (by omega)
  have e:C.still=decide (C.waits=0):=by unfold Cr.still;rw [hb];rfl
  rw [e] at hK
  exact Ja (Sub.refl _) (hK _)
 ·have e:C.still=false:=by
   unfold Cr.still
   cases hb:C.b with
   | nil=>rw [hb] at h1;exact absurd rfl h1
   | cons a t=>rfl
  rw [e] at hK
  exact Ja (Sub.refl _) (hK _)
end
end Go.Proofs.YtkdfaijmjmnhjaaGreat.Gen
namespace Go.Proofs.YtkdfaijmjmnhjaaGreat.Gen
open Go Go.Proofs.YtkdfaijmjmnhjaaGreat.Abs Go.RowKit
variable {g:G} {n:Nat}
section
variable {F:G} {o:Col Cl} {lx ls:Nat} {W:XaS} {w:CW} {S:Sys} {C:Cr} {i:Ins} {evs:List Evt} {K:Cont}
theorem StH.ldi (h:StH F o g lx ls W w S C i evs) {k:Nat} {v:Value} {K:Value→Prop} (hk:(encI i)[k]? =some v) (kk:K v):kLd g lx (0+2+k) K:=by
 have:=h.ldx (k:=2+k) (v:=v) (K:=K) (by rw [List.getElem?_append_right (by simp)];simpa using hk) kk
 rwa [show 0+(2+k)=0+2+k by omega] at this
theorem CoH.atr (h:CoH o g w C) {j:Int} {p:Value} {K:Value→Prop} (h0:0≤j∧j≤7) (hp:p=ptr w.lc (0+1+j.toNat*1)) (kk:K (.int .u64 (C.reg j))):Qd p fun l o=>kLd g l o K:=by
 subst hp
 rw [Zb]
 refine Qb h.hc ?_ kk
 rw [show 0+1+j.toNat*1=1+j.toNat by omega]
 exact JgH h.rl h0.1 (by omega)
theorem sub_eq {g':G} {l:Nat} {b:Blk} (hs:Sub g g') (h:g l=some b):g' l=g l:=(hs.live h).trans h.symm
theorem StH.str (h:StH F o g lx ls W w S C i evs) {j v:Int} {K:G→Prop} (h0:0≤j∧j≤7) (kk: ∀g',StH F o g' lx ls W w S (C.setR j v) i evs→K g'):Ji (ptr w.lc (0+1)) (.int .i64 j) 8 1 fun p=>Qd p fun l o=>kSt g l o (.int .u64 v) K:=by
 refine Xd8 h0.1 (by omega) ?_
 rw [Zb]
 refine QB h.co.hc rfl (by rw [Xer h.co.rl];omega) rfl ?_
 rw [show 0+1+j.toNat*1=1+j.toNat by omega,Xge h.co.rl h0.1 (by omega)]
 exact kk _ (h.setC (by simp [Cr.setR,h.co.rl]) rfl rfl rfl)
def Done (F:G) (lx ls:Nat) (w:CW) (i:Ins) (evs:List Evt) (K:Cont) (R:Res):Prop:= ∀v o' g' n' W',StH F o' g' lx ls W' w R.2.1 R.1 i (evs++R.2.2)→K v g' n'
theorem Done.of {R:Res} (hK:Done F lx ls w i evs K R) {v:Value} {m:Nat} (h:StH F o g lx ls W w S C i evs) (e:R=(C,S,[])):Jc K v g m:=by
 subst e
 have:=hK v o g m W
 rw [List.append_nil] at this
 exact Ja (Sub.refl _) (this h)
theorem ZdD (h:StH F o g lx ls W w S C i evs) (hL:1≤S.c.lines∧S.c.lines≤64) (hb:0≤i.b∧i.b≤7) (hl:evs.length<1000)
  (hK1:C.at S.c.lines i=none→ ∀g' n',StH F o g' lx ls W w S { C with runs:=false } i (evs++[C.ev 10 0 0 0])→K (.tuple #[.int .i64 0,.int .i64 0,.bool false]) g' n')
  (hK2: ∀l x,C.at S.c.lines i=some (l,x)→ ∀g' n',StH F o g' lx ls W w S C i evs→K (.tuple #[.int .i64 l,.int .i64 x,.bool true]) g' n'):AC Jag [ptr lx 0] g n K:=by
 refine ACalls.fold Xb ?_
 rw [←Qc5]
 simp only [JcE,Ze,Zb]
 refine h.lds (h.ldc ?_)
 refine h.ldi (k:=2) rfl ?_
 simp only [Ze,Zb]
 refine Xd8 hb.1 (by omega) ?_
 refine h.co.atr hb rfl ?_
 refine h.ldi (k:=4) rfl ?_
 refine QdO h.sys (fun g1 n1 s1=> ?_)
 obtain ⟨v,hx,_⟩:=id h.hx
 have ex:=sub_eq s1 hx
 have ec:=sub_eq s1 h.co.hc
 refine ⟨ex,ex,ec,ex,?_⟩
 have h1:=h.mono s1
 rw [Xe]
 simp only [Xby]
 refine Jb3 (v:= .int .i64 S.c.lines) rfl ?_
 refine JfW (fun n2=> ?_)
 refine XgH hL (Xfq _ _) (fun ha n3=> ?_) (fun l x ha n3=> ?_)
 ·refine Jav rfl (Jav rfl (Jav rfl (QbE (Jd rfl ?_))))
  refine JdV h1 hl (fun v g2 n4 h2=> ?_)
  exact Ja (Sub.refl _) (hK1 ha _ _ h2)
 ·refine Jav rfl (Jav rfl (Jav rfl (QbE (Zc rfl ?_))))
  exact Ja (Sub.refl _) (hK2 l x ha _ _ h1)
theorem QeV (h:StH F o g lx ls W w S C i evs) (hf:S.fit) (hL:1≤S.c.lines∧S.c.lines≤64) (hg:Xz i=true) (hl:evs.length<900) (hp:0≤C.place∧C.place<4096) (hK:Done F lx ls w i evs K (C.loadX S i)):
  AC QaE [ptr lx 0] g n K:=by
 obtain ⟨ra,rb,rc,_⟩:=Xa3 hg
 refine ACalls.fold Xb ?_
 rw [←Qcw]
 simp only [JbW]
 refine ZdD h hL rb (by omega) (fun ha g1 n1 h1=> ?_) (fun l x ha g1 n1 h1=> ?_)
 ·refine Jav rfl (Jav rfl (Jav rfl (ZaK (Jd rfl ?_))))
  have e:C.loadX S i=C.trap S:=by unfold Cr.loadX;rw [ha]
  rw [e] at hK
  exact Ja (Sub.refl _) (hK _ _ _ _ _ h1)
 ·refine Jav rfl (Jav rfl (Jav rfl (ZaK (Zc rfl ?_))))
  have jj: ∀(t:Env) {o:Col Cl} {W:XaS} {S':Sys} (g2:G) (m:Nat) (kind v:Int),t 0=ptr lx 0→t 5= .int .i64 kind→t 2= .int .i64 l→t 3= .int .i64 x→t 6= .int .u64 v→StH F o g2 lx ls W w S' C i evs→
    C.loadX S i=((C.setR i.a v).next,S',[C.ev kind l x v])→Jaj AC K t g2 m:=by
   intro t o W S' g2 m kind v t0 t5 t2 t3 t6 h2 e
   rw [e] at hK
   simp only [Jaj,t0,t5,t2,t3,t6]
   refine J3 h2 (by omega) _ _ _ _ (fun v' g3 n3 h3=> ?_)
   simp only [Ze,Zb]
   refine h3.ldc ?_
   refine h3.ldi (k:=1) rfl ?_
   simp only [Ze,Zb]
   refine h3.str ra (fun g4 h4=> ?_)
   refine ZaL h4 (by show -1≤C.place∧C.place≤2147483648;omega) (fun v5 g5 n5 h5=> ?_)
   exact Ja (Sub.refl _) (hK _ _ _ _ _ h5)
  simp only [Ze,Zb]
  refine h1.ldc ?_
  simp only [Ze,Zb]
  refine h1.co.ldt (k:=2) rfl ?_
  refine Xe5 h1.co.hb l x (fun g2 n2 s2=> ?_)
  have h2:=h1.mono s2
  refine Jav rfl (Jav rfl (ZaK ?_))
  cases hfd:Xbz C.b l x with
  | some v=>
   refine Zc rfl ?_
   exact jj _ _ _ 2 v rfl rfl rfl rfl rfl h2 (by unfold Cr.loadX;rw [ha];simp only;rw [hfd])
  | none=>
   refine Jd rfl ?_
   refine h2.lds (h2.ldc ?_)
   simp only [Ze,Zb]
   refine h2.co.ldid ?_
   refine Zdm h2.sys hf _ _ _ (fun o3 g3 n3 W3 u3 h3=> ?_)
   have h3':=h2.sysop u3 h3
   refine Jav rfl (Jav rfl (ZaK ?_))
   refine Qu (fun hb=> ?_) (fun hb=> ?_)
   ·exact hK.of (R:=C.loadX S i) (S:=(S.load C.id l x).1) (by
     have e:C.loadX S i=(C,(S.load C.id l x).1,[]):=by
      unfold Cr.loadX;rw [ha];simp only;rw [hfd];simp only;rw [if_neg (by simpa using hb)]
     exact h3') (by
      unfold Cr.loadX;rw [ha];simp only;rw [hfd];simp only;rw [if_neg (by simpa using hb)])
   ·exact jj _ _ _ 1 _ rfl rfl rfl rfl rfl h3' (by unfold Cr.loadX;rw [ha];simp only;rw [hfd];simp only;rw [if_pos (by simpa using hb)])
theorem Zeh (h:StH F o g lx ls W w S C i evs) (hl:evs.length<900) (hp:0≤C.place∧C.place<4096) (hK:Done F lx ls w i evs K (C.fenceX S)):AC Jaz [ptr lx 0] g n K:=by
 refine ACalls.fold Xb ?_
 rw [←Xcj]
 simp only [JbA]
 refine Jdt h (fun n1=>Qu (fun hs=> ?_) (fun hs=> ?_))
 ·have e:C.fenceX S=(C.next,S,[C.ev 7 0 0 0]):=by unfold Cr.fenceX;rw [if_pos hs]
  rw [e] at hK
  refine J3 h (by omega) _ _ _ _ (fun v g2 n2 h2=> ?_)
  refine ZaL h2 (by omega) (fun v3 g3 n3 h3=> ?_)
  exact Ja (Sub.refl _) (hK _ _ _ _ _ h3)
 ·exact hK.of h (by unfold Cr.fenceX;rw [if_neg (by rw [hs];decide)])
theorem JfX {a l:Int} {K:List Value→Prop} (k:K (Zj ⟨a,l,0,0,false⟩)):Xf [.int .i64 0,.int .i64 0,.int .i64 0,.int .u64 0,.bool false] [(0,none,.int .i64 a),(1,none,.int .i64 l)] K:=
 ⟨rfl,by decide,rfl,Nat.le_of_ble_eq_true rfl,k⟩
theorem Xfw (h:StH F o g lx ls W w S C i evs) (hL:1≤S.c.lines∧S.c.lines≤64) (hg:Xz i=true) (hi:i.op=9∨i.op=12∨i.op=13∨i.op=14) (hr:C.room≤16) (hl:evs.length<900) (hp:0≤C.place∧C.place<4096)
  (hK:Done F lx ls w i evs K (C.putX S i)):AC Xv [ptr lx 0] g n K:=by
 obtain ⟨ra,rb,rc,_⟩:=Xa3 hg
 refine ACalls.fold Xb ?_
 rw [←ZcH]
 simp only [Qbn,JaY]
 refine ZdD h hL rb (by omega) (fun ha g1 n1 h1=> ?_) (fun l x ha g1 n1 h1=> ?_)
 ·refine Jav rfl (Jav rfl (Jav rfl (ZaK (Jd rfl ?_))))
  have e:C.putX S i=C.trap S:=by unfold Cr.putX;rw [ha]
  rw [e] at hK
  exact Ja (Sub.refl _) (hK _ _ _ _ _ h1)
 ·refine Jav rfl (Jav rfl (Jav rfl (ZaK (Zc rfl ?_))))
  have hrg:=Cr.at_rng ha
  have jj: ∀(t:Env) (g2:G) (m l5:Nat) (e:SE),t 0=ptr lx 0→t 5=ptr l5 0→t 2= .int .i64 l→t 3= .int .i64 x→StH F o g2 lx ls W w S C i evs→g2 l5=some (.cells (Zj e) .exact)→l5≠lx→ ¬w.mem l5→o l5=none→e=C.entry i l x→
    JW AC K (ZD AC K) t g2 m:=by
   intro t g2 m l5 e t0 t5 t2 t3 h2 x5 n5 m5 o5 he
   simp only [JW,t0,t5,Ze,Zb]
   refine h2.ldc ?_
   simp only [Ze,Zb]
   refine h2.co.ldt (k:=2) rfl ?_
   refine XgQ x5 ?_
   have hgd:e.good=true:=by rw [he];exact Cr.entry_good hi (by omega) (by omega)
   refine Qe8 h2.co.hb hr e (fun hb=>by rw [hgd] at hb;cases hb) (fun _ hfull g3 n3 s3=> ?_) (fun _ hroom g3 n3 c3 b3=> ?_)
   ·refine QbE (Jd rfl ?_)
    exact hK.of (h2.mono s3) (by unfold Cr.putX;rw [ha];simp only;rw [if_pos hfull])
   ·refine QbE (Zc rfl ?_)
    have h3:=h2.buf c3 b3
    have x6:=c3.live (fun hb=>m5 (.inr (.inr hb))) x5
    have ex:C.putX S i=({ C with b:=C.b++[e] }.next,S,[if i.op=9 then C.ev 12 l x (C.reg i.a) else C.ev 14 l 0 0]):=by
     unfold Cr.putX;rw [ha];simp only;rw [if_neg (by omega),he]
    rw [ex] at hK
    have p0: ∀(t':Env),t' 0=ptr lx 0→t' 5=ptr l5 0→t' 2= .int .i64 l→t' 3= .int .i64 x→ZD AC K t' g3 n3:=by
     intro t' q0 q5 q2 q3
     simp only [ZD,q0,q5,q2,q3,Ze,Zb]
     refine h3.ldi (k:=0) rfl (Zae (Xj (fun h9=> ?_) (fun h9=> ?_)))
     ·rw [if_pos h9] at hK
      have hv:(Zj e)[0+3]? =some (.int .u64 (C.reg i.a)):=by rw [he];unfold Cr.entry;rw [if_pos h9];rfl
      refine Qb x6 hv ?_
      refine J3 h3 (by omega) _ _ _ _ (fun v g4 n4 h4=> ?_)
      refine ZaL h4 (by show -1≤C.place∧C.place≤2147483648;omega) (fun v5 g5 n5 h5=> ?_)
      exact Ja (Sub.refl _) (hK _ _ _ _ _ h5)
     ·rw [if_neg h9] at hK
      refine J3 h3 (by omega) _ _ _ _ (fun v g4 n4 h4=> ?_)
      refine ZaL h4 (by show -1≤C.place∧C.place≤2147483648;omega) (fun v5 g5 n5 h5=> ?_)
      exact Ja (Sub.refl _) (hK _ _ _ _ _ h5)
    exact p0 _ t0 t5 t2 t3
  simp only [Ze,Zb]
  refine h1.ldi (k:=0) rfl ?_
  refine JfX ?_
  change Zq (Zj Zm) .exact g1 n1 _
  intro hn
  have s1:=(Sub.refl g1).new hn (some (.cells (Zj Zm) .exact))
  have x1:upd g1 n1 (some (.cells (Zj Zm) .exact)) n1=some (.cells (Zj Zm) .exact):=Xa _ _ _
  have o1:o n1=none:=h1.sys.live.fresh hn
  have m1: ¬w.mem n1:=by
   obtain ⟨ds,e1,e2⟩:=h1.co.hp
   obtain ⟨L,f,hr⟩:=id h1.co.hb
   rintro (e|e|e)
   ·rw [e,h1.co.hc] at hn;cases hn
   ·rw [e,e2] at hn;cases hn
   ·rw [e,hr.hb] at hn;cases hn
  have nx1:n1≠lx:=fun e=>by obtain ⟨v,hx,_⟩:=h1.hx;rw [e,hx] at hn;cases hn
  rw [Xe]
  refine Xf9 (e:=⟨i.op,l,0,0,false⟩) x1 (fun x2=> ?_)
  have s2:Sub g1 (upd (upd g1 n1 (some (.cells (Zj Zm) .exact))) n1 (some (.cells (Zj ⟨i.op,l,0,0,false⟩) .exact))):=s1.upd_fresh _ hn
  have h2:=h1.mono s2
  generalize upd (upd g1 n1 (some (.cells (Zj Zm) .exact))) n1 (some (.cells (Zj ⟨i.op,l,0,0,false⟩) .exact))=g2 at x2 s2 h2
  refine h2.ldi (k:=0) rfl (Zae (Xj (fun h9=> ?_) (fun h9=> ?_)))
  ·refine h2.ldc ?_
   refine h2.ldi (k:=1) rfl ?_
   simp only [Ze,Zb]
   refine Xd8 ra.1 (by omega) ?_
   refine h2.co.atr ra rfl ?_
   refine QB x2 rfl (by rw [Jz];decide) rfl ?_
   have e3:(Zj ⟨i.op,l,0,0,false⟩).set (0+2) (.int .i64 x)=Zj ⟨i.op,l,x,0,false⟩:=rfl
   rw [e3]
   have hlc: ∀{k:Nat} (b:Option Blk),w.mem k∨k=lx→upd g2 n1 b k=g2 k:=fun b hk=>Qc _ _ (fun e=>by rcases hk with hk|hk;exact m1 (e▸hk);exact nx1 (e.symm.trans hk))
   refine ⟨hlc _ (.inr rfl),hlc _ (.inr rfl),?_,?_⟩
   ·rw [Zb];exact hlc _ (.inl (.inl rfl))
   refine QB (Xa _ _ _) rfl (by rw [Jz];decide) rfl ?_
   have e4:(Zj ⟨i.op,l,x,0,false⟩).set (0+3) (.int .u64 (C.reg i.a))=Zj ⟨i.op,l,x,C.reg i.a,false⟩:=rfl
   rw [e4]
   have s3:Sub g1 (upd (upd g2 n1 (some (.cells (Zj ⟨i.op,l,x,0,false⟩) .exact))) n1 (some (.cells (Zj ⟨i.op,l,x,C.reg i.a,false⟩) .exact))):=(s2.upd_fresh _ hn).upd_fresh _ hn
   simp only [Jaq]
   refine jj _ _ _ n1 ⟨i.op,l,x,C.reg i.a,false⟩ rfl rfl rfl rfl (h1.mono s3) (Xa _ _ _) nx1 m1 o1 ?_
   unfold Cr.entry;rw [if_pos h9,h9]
  ·simp only [Jaq]
   refine jj _ _ _ n1 ⟨i.op,l,0,0,false⟩ rfl rfl rfl rfl h2 x2 nx1 m1 o1 ?_
   unfold Cr.entry;rw [if_neg h9]
end
end Go.Proofs.YtkdfaijmjmnhjaaGreat.Gen
namespace Go.Proofs.YtkdfaijmjmnhjaaGreat.Gen
open Go Go.Proofs.YtkdfaijmjmnhjaaGreat.Abs Go.RowKit
variable {g:G} {n:Nat}
section
variable {F:G} {o:Col Cl} {lx ls:Nat} {W:XaS} {w:CW} {S:Sys} {C:Cr} {i:Ins} {evs:List Evt} {K:Cont}
set_option maxRecDepth 100000 in
theorem XdQ (h:StH F o g lx ls W w S C i evs) {k:Nat} (hw:S.wf k) (hk:k+3<100000) (hg:Xz i=true) (hl:evs.length<900) (hp:0≤C.place∧C.place<4096) (hK:Done F lx ls w i evs K (C.lockX S i)):
  AC Xp [ptr lx 0] g n K:=by
 obtain ⟨ra,rb,rc,_⟩:=Xa3 hg
 have hL:1≤S.c.lines∧S.c.lines≤64:=by have:=hw.c.lines;omega
 refine ACalls.fold Xb ?_
 rw [←Zb9]
 simp only [ZaM,ZaC]
 refine ZdD h hL rb (by omega) (fun ha g1 n1 h1=> ?_) (fun l x ha g1 n1 h1=> ?_)
 ·refine Jav rfl (Jav rfl (Jav rfl (ZaK (Jd rfl ?_))))
  have e:C.lockX S i=C.trap S:=by unfold Cr.lockX;rw [ha]
  rw [e] at hK
  exact Ja (Sub.refl _) (hK _ _ _ _ _ h1)
 refine Jav rfl (Jav rfl (Jav rfl (ZaK (Zc rfl ?_))))
 refine Jdt h1 (fun n2=>ZaK (Qu (fun hs=> ?_) (fun hs=> ?_)))
 ·exact hK.of h1 (by unfold Cr.lockX;rw [ha];simp only;rw [if_pos (by simpa using hs)])
 have hs': ¬C.still=false:=by simp only [Bool.not_eq_false];simpa using hs
 simp only [Ze,Zb]
 refine h1.lds (h1.ldc ?_)
 simp only [Ze,Zb]
 refine h1.co.ldid ?_
 have hw1:=hw.reach (by omega:k<100000) C.id l
 refine Jew h1.sys (hw.fit (by omega)) (fun j N line hN=>((hw.nd j N hN).gd.reach (by omega) line).ok) _ _ (fun o3 g3 n3 W3 u3 h3=> ?_)
 have h3':=h1.sysop u3 h3
 refine ZaK (Qu (fun hb=> ?_) (fun hb=> ?_))
 ·have e:C.lockX S i=(C,(S.reach C.id l).1,[]):=by unfold Cr.lockX;rw [ha];simp only;rw [if_neg hs',if_pos (by simpa using hb)]
  rw [e] at hK
  exact Done.of (R:=(C,(S.reach C.id l).1,[])) hK h3' rfl
 have hb': ¬(S.reach C.id l).2=false:=by simp only [Bool.not_eq_false];simpa using hb
 refine h3'.lds (h3'.ldc ?_)
 simp only [Ze,Zb]
 refine h3'.co.ldid ?_
 have hw2:=hw1.load (by omega:k+1<100000) C.id l x
 refine Zdm h3'.sys (hw1.fit (by omega)) _ _ _ (fun o4 g4 n4 W4 u4 h4=> ?_)
 have h4':=h3'.sysop u4 h4
 generalize hold:((S.reach C.id l).1.load C.id l x).2.1=old at*
 generalize hS2:((S.reach C.id l).1.load C.id l x).1=S2 at*
 refine Jav rfl (Jav rfl ?_)
 refine J3 h4' (by omega) _ _ _ _ (fun v5 g5 n5 h5=> ?_)
 have cut1: ∀(t:Env),t 0=ptr lx 0→t 5= .int .u64 old→t 2= .int .i64 l→t 3= .int .i64 x→QI AC K (Zv AC K) t g5 n5:=by
  intro t t0 t5 t2 t3
  simp only [QI,t0,t5,Ze,Zb]
  refine h5.ldc ?_
  refine h5.ldi (k:=3) rfl ?_
  simp only [Ze,Zb]
  refine Xd8 rc.1 (by omega) ?_
  refine h5.co.atr rc rfl ?_
  refine h5.ldc ?_
  refine h5.ldi (k:=1) rfl ?_
  simp only [Ze,Zb]
  refine Xd8 ra.1 (by omega) ?_
  refine h5.co.atr ra rfl ?_
  refine Zae ?_
  refine h5.ldi (k:=0) rfl ?_
  have fin: ∀(t':Env) (st:Bool) (v:Int),t' 0=ptr lx 0→t' 5= .int .u64 old→t' 2= .int .i64 l→t' 3= .int .i64 x→t' 7= .int .u64 v→t' 8= .bool st→
    C.lockX S i=(if st then ((C.setR i.a old).next,(S2.store C.id l x v).1,[C.ev 4 l x old,C.ev 3 l x v]) else ((C.setR i.a old).next,S2,[C.ev 4 l x old]))→Zv AC K t' g5 n5:=by
   intro t' st v q0 q5 q2 q3 q7 q8 e
   rw [e] at hK
   have j2: ∀(t':Env) {o:Col Cl} {W:XaS} {S3:Sys} (g6:G) (m:Nat) (ev:List Evt),t' 0=ptr lx 0→t' 5= .int .u64 old→StH F o g6 lx ls W w S3 C i ev→(∀v o' g' n' W',StH F o' g' lx ls W' w S3 (C.setR i.a old).next i ev→K v g' n')→Q8 AC K t' g6 m:=by
    intro t' o W S3 g6 m ev q0 q5 h6 hk6
    simp only [Q8,q0,q5,Ze,Zb]
    refine h6.ldc ?_
    refine h6.ldi (k:=1) rfl ?_
    simp only [Ze,Zb]
    refine h6.str ra (fun g7 h7=> ?_)
    refine ZaL h7 (by show -1≤C.place∧C.place≤2147483648;omega) (fun v8 g8 n8 h8=> ?_)
    exact Ja (Sub.refl _) (hk6 _ _ _ _ _ h8)
   simp only [Zv,q8]
   cases st with
   | true=>
    refine Jd rfl ?_
    simp only [if_true] at hK
    simp only [q0,q2,q3,q7,Ze,Zb]
    refine h5.lds (h5.ldc ?_)
    simp only [Ze,Zb]
    refine h5.co.ldid ?_
    refine Xda h5.sys (hw2.fit (by omega)) _ _ _ _ (fun o6 g6 n6 W6 u6 h6=> ?_)
    have h6':=h5.sysop u6 h6
    refine J3 h6' (by rw [List.length_append,List.length_singleton];omega) _ _ _ _ (fun v7 g7 n7 h7=> ?_)
    refine j2 _ _ _ _ q0 q5 h7 (fun v o' g' n' W' h'=>hK v o' g' n' W' ?_)
    rw [List.append_assoc] at h'
    exact h'
   | false=>
    refine Zc rfl ?_
    simp only [Bool.false_eq_true,if_false] at hK
    exact j2 _ _ _ _ q0 q5 h5 hK
  have lk: ∀{A B:Res},(if i.op=11 then A else B)=C.lockX S i→True:=fun _=>trivial
  refine Zae (Xj (fun h11=> ?_) (fun h11=> ?_))
  ·rw [Jh]
   simp only [Q7]
   refine fin _ true (IntKind.u64.wrap (old+C.reg i.c)) t0 t5 t2 t3 rfl rfl ?_
   unfold Cr.lockX
   rw [ha]
   simp only
   rw [if_neg hs',if_neg hb',if_pos h11,hold,hS2]
   rfl
  ·simp only [Q7]
   refine fin _ (decide (old=C.reg i.a)) (C.reg i.c) t0 t5 t2 t3 rfl rfl ?_
   unfold Cr.lockX
   rw [ha]
   simp only
   rw [if_neg hs',if_neg hb',if_neg h11,hold,hS2]
   by_cases ho:old=C.reg i.a
   ·rw [if_pos ho,decide_eq_true ho];rfl
   ·rw [if_neg ho,decide_eq_false ho];rfl
 exact cut1 _ rfl rfl rfl rfl
set_option maxRecDepth 100000 in
theorem Xd3 (h:StH F o g lx ls W w S C i evs) (hg:Xz i=true) (hn:C.nn) (hp:0≤C.place∧C.place<4096) (hK: ∀v g' n',StH F o g' lx ls W w S (C.reckonX i) i evs→K v g' n'):AC Qas [ptr lx 0] g n K:=by
 obtain ⟨ra,rb,rc,_⟩:=Xa3 hg
 refine ACalls.fold Xb ?_
 rw [←Qb1]
 simp only [Xbv,Ze,Zb]
 refine h.ldc ?_
 simp only [Ze,Zb]
 obtain ⟨v,hx,_⟩:=id h.hx
 refine XA hx (by simp [xC,encI]) ?_
 rw [show ((xC w ls i v).drop (0+2)).take 5=encI i from rfl]
 change Zq (encI Xw) .exact g n _
 intro hn1
 have s1:=(Sub.refl g).new hn1 (some (.cells (encI Xw) .exact))
 have hnx:lx≠n:=fun e=>by rw [←e,hx] at hn1;cases hn1
 refine ⟨Qc _ _ hnx,Qc _ _ hnx,?_⟩
 rw [Xe]
 refine stI (e:=i) (z:=Xw) (Xa _ _ _) (fun x2=> ?_)
 have s2:Sub g (upd (upd g n (some (.cells (encI Xw) .exact))) n (some (.cells (encI i) .exact))):=s1.upd_fresh _ hn1
 have h2:=h.mono s2
 have on:o n=none:=h.sys.live.fresh hn1
 have mn: ¬w.mem n:=by
  obtain ⟨ds,e1,e2⟩:=h.co.hp
  obtain ⟨L,f,hr⟩:=id h.co.hb
  rintro (e|e|e)
  ·rw [e,h.co.hc] at hn1;cases hn1
  ·rw [e,e2] at hn1;cases hn1
  ·rw [e,hr.hb] at hn1;cases hn1
 have nc:n≠w.lc:=fun e=>mn (.inl e)
 refine ACalls.fold Xb ?_
 rw [←Jbd]
 simp only [Xa5,Ze,Zb]
 refine h2.ldc ?_
 simp only [Ze,Zb]
 refine h2.co.ldt (k:=0) rfl ?_
 rw [Jh,Jf (by omega) (by omega)]
 refine h2.co.st (k:=0) (C':=C.next) (by decide) rfl rfl ?_
 have h3:=h2.setC (C':=C.next) h2.co.rl rfl rfl rfl
 have x3:upd (upd (upd g n (some (.cells (encI Xw) .exact))) n (some (.cells (encI i) .exact))) w.lc (some (.cells (coC w C.next) .exact)) n=some (.cells (encI i) .exact):=by rw [Qc _ _ nc];exact x2
 generalize upd (upd (upd g n (some (.cells (encI Xw) .exact))) n (some (.cells (encI i) .exact))) w.lc (some (.cells (coC w C.next) .exact))=g3 at h3 x3
 refine Ja (Sub.refl _) ?_
 refine Qb x3 rfl (Qb x3 rfl ?_)
 refine Xd8 rb.1 (by omega) ?_
 refine h3.co.atr rb rfl ?_
 refine Qb x3 rfl ?_
 refine Xd8 rc.1 (by omega) ?_
 refine h3.co.atr rc rfl ?_
 have er: ∀k,C.next.reg k=C.reg k:=fun _=>rfl
 rw [er,er]
 refine Qe7 i.op (hn.reg i.c) (fun g4 n4 s4=> ?_)
 have h4:=h3.mono s4
 have x4:=s4.live x3
 refine Jav rfl (Jav rfl (Xj (fun hop=> ?_) (fun hop=> ?_)))
 ·rw [if_pos hop]
  have e:C.reckonX i=(C.setR i.a (JgU i.op (C.reg i.b) (C.reg i.c))).next:=by unfold Cr.reckonX;rw [if_pos hop]
  rw [e] at hK
  refine Qb x4 rfl ?_
  refine h4.str ra (fun g5 h5=> ?_)
  exact Ja (Sub.refl _) (hK _ _ _ h5)
 ·refine Qb x4 rfl (Qb x4 rfl ?_)
  refine Xd8 ra.1 (by omega) ?_
  refine h4.co.atr ra rfl ?_
  refine Qb x4 rfl ?_
  refine Xd8 rb.1 (by omega) ?_
  refine h4.co.atr rb rfl ?_
  rw [er,er]
  refine ZdY i.op (fun c n5=> ?_)
  refine Jav rfl (Jav rfl (Qu (fun hgo=> ?_) (fun hgo=> ?_)))
  ·have e:C.reckonX i={ C with place:=i.imm }:=by unfold Cr.reckonX;rw [if_neg hop,if_pos hgo]
   rw [e] at hK
   refine h4.ldc ?_
   refine Qb x4 rfl ?_
   simp only [Ze,Zb]
   refine h4.co.st (k:=0) (C':={ C with place:=i.imm }) (by decide) rfl rfl ?_
   exact Ja (Sub.refl _) (hK _ _ _ (h4.setC h4.co.rl rfl rfl rfl))
  ·have e:C.reckonX i=C.next:=by unfold Cr.reckonX;rw [if_neg hop,if_neg (by rw [hgo];decide)]
   rw [e] at hK
   exact Ja (Sub.refl _) (hK _ _ _ h4)
end
end Go.Proofs.YtkdfaijmjmnhjaaGreat.Gen
namespace Go.Proofs.YtkdfaijmjmnhjaaGreat.Gen
open Go Go.Proofs.YtkdfaijmjmnhjaaGreat.Abs Go.RowKit
variable {g:G} {n:Nat}
section
variable {F:G} {o:Col Cl} {lx ls:Nat} {W:XaS} {w:CW} {S:Sys} {C:Cr} {i:Ins} {evs:List Evt} {K:Cont}
set_option maxRecDepth 100000 in
theorem Jgc (h:StH F o g lx ls W w S C i evs) {k:Nat} (hw:S.wf k) (hk:k+3<100000) (hok:C.ok) (hn:C.nn) (hg:Xz i=true) (hop:0≤i.op∧i.op≤22) (hl:evs.length<900) (hp:0≤C.place∧C.place<4096) (hK:Done F lx ls w i evs K (C.doX S i)):
  AC XaX [ptr lx 0] g n K:=by
 obtain ⟨ra,rb,rc,_⟩:=Xa3 hg
 have hL:1≤S.c.lines∧S.c.lines≤64:=by have:=hw.c.lines;omega
 refine ACalls.fold Xb ?_
 rw [←Zc5]
 simp only [XcA,Ze,Zb]
 refine h.ldc ?_
 simp only [Ze,Zb]
 obtain ⟨v,hx,_⟩:=id h.hx
 refine XA hx (by simp [xC,encI]) ?_
 rw [show ((xC w ls i v).drop (0+2)).take 5=encI i from rfl]
 change Zq (encI Xw) .exact g n _
 intro hn1
 have s1:=(Sub.refl g).new hn1 (some (.cells (encI Xw) .exact))
 rw [Xe]
 refine stI (e:=i) (z:=Xw) (Xa _ _ _) (fun x2=> ?_)
 have s2:Sub g (upd (upd g n (some (.cells (encI Xw) .exact))) n (some (.cells (encI i) .exact))):=s1.upd_fresh _ hn1
 have h2:=h.mono s2
 generalize upd (upd g n (some (.cells (encI Xw) .exact))) n (some (.cells (encI i) .exact))=g2 at x2 s2 h2
 have ret: ∀{v:Value} {o':Col Cl} {g':G} {n':Nat} {W':XaS} {R:Res},R=C.doX S i→StH F o' g' lx ls W' w R.2.1 R.1 i (evs++R.2.2)→Jc K v g' n':=by
  intro v o' g' n' W' R e h'
  subst e
  exact Ja (Sub.refl _) (hK _ _ _ _ _ h')
 refine Qb x2 rfl ?_
 refine Zae (Xj (fun c0=> ?_) (fun c0=> ?_))
 ·refine ZaL h2 (by omega) (fun v3 g3 n3 h3=> ?_)
  exact ret (R:=(C.next,S,[])) (by unfold Cr.doX;rw [if_pos c0]) (by rw [List.append_nil];exact h3)
 refine Zae (Xj (fun c1=> ?_) (fun c1=> ?_))
 ·refine Qb x2 rfl (Qb x2 rfl ?_)
  rw [Zax]
  refine h2.str ra (fun g3 h3=> ?_)
  refine ZaL h3 (by show -1≤C.place∧C.place≤2147483648;omega) (fun v3 g3 n3 h3=> ?_)
  exact ret (R:=((C.setR i.a (IntKind.u64.wrap i.imm)).next,S,[])) (by unfold Cr.doX;rw [if_neg c0,if_pos c1]) (by rw [List.append_nil];exact h3)
 refine Zae (Xj (fun c8=> ?_) (fun c8=> ?_))
 ·refine QeV h2 (hw.fit (by omega)) hL hg hl hp (fun v3 o3 g3 n3 W3 h3=> ?_)
  exact ret (R:=C.loadX S i) (by unfold Cr.doX;rw [if_neg c0,if_neg c1,if_pos c8]) h3
 have j3: ∀(t:Env) (m:Nat),t 0=ptr lx 0→t 15= .int .i64 i.op→t 3=ptr n 0→t 2=ptr w.lc (0+1)→t 50= .bool (decide (i.op=10∨i.op=11))→ ¬(i.op=9∨i.op=12∨i.op=13∨i.op=14)→ ¬(i.op=15∨i.op=16)→Qay AC K t g2 m:=by
  intro t m t0 t15 t3 t2 t50 c9 c15
  simp only [Qay,t0,t15,t3,t2,t50]
  refine Xj (fun c10=> ?_) (fun c10=> ?_)
  ·refine XdQ h2 hw hk hg hl hp (fun v3 o3 g3 n3 W3 h3=> ?_)
   exact ret (R:=C.lockX S i) (by unfold Cr.doX;rw [if_neg c0,if_neg c1,if_neg c8,if_neg c9,if_neg c15,if_pos c10]) h3
  refine Zae (Xj (fun c21=> ?_) (fun c21=> ?_))
  ·simp only [Zb]
   refine Qb x2 rfl ?_
   simp only [Ze]
   refine Xd8 ra.1 (by omega) ?_
   refine h2.co.atr ra rfl ?_
   refine J3 h2 (by omega) _ _ _ _ (fun v3 g3 n3 h3=> ?_)
   refine ZaL h3 (by omega) (fun v4 g4 n4 h4=> ?_)
   exact ret (R:=(C.next,S,[C.ev 8 0 0 (C.reg i.a)])) (by unfold Cr.doX;rw [if_neg c0,if_neg c1,if_neg c8,if_neg c9,if_neg c15,if_neg c10,if_pos c21]) h4
  refine Zae (Xj (fun c22=> ?_) (fun c22=> ?_))
  ·refine J3 h2 (by omega) _ _ _ _ (fun v3 g3 n3 h3=> ?_)
   simp only [Ze,Zb]
   refine h3.ldc ?_
   simp only [Ze,Zb]
   refine h3.co.st (k:=4) (C':={ C with runs:=false }) (by decide) rfl rfl ?_
   exact ret (R:=({ C with runs:=false },S,[C.ev 9 0 0 0])) (by unfold Cr.doX;rw [if_neg c0,if_neg c1,if_neg c8,if_neg c9,if_neg c15,if_neg c10,if_neg c21,if_pos c22]) (h3.setC h3.co.rl rfl rfl rfl)
  ·refine Xd3 h2 hg hn hp (fun v3 g3 n3 h3=> ?_)
   exact ret (R:=(C.reckonX i,S,[])) (by unfold Cr.doX;rw [if_neg c0,if_neg c1,if_neg c8,if_neg c9,if_neg c15,if_neg c10,if_neg c21,if_neg c22]) (by rw [List.append_nil];exact h3)
 have j2: ∀(t:Env) (m:Nat),t 0=ptr lx 0→t 15= .int .i64 i.op→t 3=ptr n 0→t 2=ptr w.lc (0+1)→t 45= .bool (decide (i.op=15∨i.op=16))→ ¬(i.op=9∨i.op=12∨i.op=13∨i.op=14)→Xay AC K t g2 m:=by
  intro t m t0 t15 t3 t2 t45 c9
  simp only [Xay,t0,t15,t45]
  refine Xj (fun c15=> ?_) (fun c15=> ?_)
  ·refine Zeh h2 hl hp (fun v3 o3 g3 n3 W3 h3=> ?_)
   exact ret (R:=C.fenceX S) (by unfold Cr.doX;rw [if_neg c0,if_neg c1,if_neg c8,if_neg c9,if_pos c15]) h3
  refine Zae (Xj (fun c10=> ?_) (fun c10=>Zae ?_))
  ·exact j3 _ _ t0 t15 t3 t2 (by show Value.bool (decide (i.op=10))=_;congr 1;simp [c10]) c9 c15
  ·exact j3 _ _ t0 t15 t3 t2 (by show Value.bool (decide (i.op=11))=_;congr 1;simp [c10]) c9 c15
 have j1: ∀(t:Env) (m:Nat),t 0=ptr lx 0→t 15= .int .i64 i.op→t 3=ptr n 0→t 2=ptr w.lc (0+1)→t 38= .bool (decide (i.op=9∨i.op=12∨i.op=13∨i.op=14))→Z4 AC K t g2 m:=by
  intro t m t0 t15 t3 t2 t38
  simp only [Z4,t0,t15,t38]
  refine Xj (fun c9=> ?_) (fun c9=> ?_)
  ·refine Xfw h2 hL hg c9 hok.room.2 hl hp (fun v3 o3 g3 n3 W3 h3=> ?_)
   exact ret (R:=C.putX S i) (by unfold Cr.doX;rw [if_neg c0,if_neg c1,if_neg c8,if_pos c9]) h3
  refine Zae (Xj (fun c15=> ?_) (fun c15=>Zae ?_))
  ·exact j2 _ _ t0 t15 t3 t2 (by show Value.bool (decide (i.op=15))=_;congr 1;simp [c15]) c9
  ·exact j2 _ _ t0 t15 t3 t2 (by show Value.bool (decide (i.op=16))=_;congr 1;simp [c15]) c9
 refine Zae (Xj (fun c9=>j1 _ _ rfl rfl rfl rfl ?_) (fun c9=>Zae (Xj (fun c12=>j1 _ _ rfl rfl rfl rfl ?_) (fun c12=>Zae (Xj (fun c13=>j1 _ _ rfl rfl rfl rfl ?_) (fun c13=>Zae (j1 _ _ rfl rfl rfl rfl ?_)))))))
 ·show Value.bool (decide (i.op=9))=_;congr 1;simp [c9]
 ·show Value.bool (decide (i.op=12))=_;congr 1;simp [c12]
 ·show Value.bool (decide (i.op=13))=_;congr 1;simp [c13]
 ·show Value.bool (decide (i.op=14))=_;congr 1;simp [c9,c12,c13]
end
section
variable {A M B:List Value}
theorem Zcz {k:Nat} (hk:k<M.length):(A++M++B)[A.length+k]? =M[k]? :=by
 rw [List.append_assoc,List.getElem?_append_right (by omega),show A.length+k-A.length=k by omega,List.getElem?_append_left hk]
theorem XdG {k:Nat} (hk:k<M.length) (v:Value):(A++M++B).set (A.length+k) v=A++M.set k v++B:=by
 rw [List.append_assoc,List.set_append_right _ _ (by omega),show A.length+k-A.length=k by omega,List.set_append_left _ _ hk,List.append_assoc]
theorem XeU {k:Nat} {vs:List Value} (hk:k+vs.length≤M.length):splice (A++M++B) (A.length+k) vs=A++splice M k vs++B:=by
 unfold splice
 rw [List.append_assoc A M B,List.take_append,List.take_of_length_le (by omega),show A.length+k-A.length=k by omega,List.take_append_of_le_length (by omega),Nat.add_assoc,List.drop_append,List.drop_of_length_le (by omega),show A.length+(k+vs.length)-A.length=k+vs.length by omega,List.drop_append_of_le_length hk]
 simp
end
section
variable {K:Cont} {lp ln:Nat} {A B:List Value} {u:Int}
theorem QfM {m s:Int} {a c d:Value} (hu:0≤u∧u<18446744073709551616) (hp:g lp=some (.cells (A++([a,c,d,.int .u64 u]++encI Xw++[.bool false])++B) .exact)) (hx:g ln=some (.cells [ptr lp A.length] .exact)) (hne:ln≠lp)
  (hK: ∀v g' n',Chg (fun x=>x=lp) g g'→g' lp=some (.cells (A++([a,c,d,.int .u64 u]++encI (Qec u)++[.bool (decode u).isSome])++B) .exact)→K v g' n'):AC XaC [ptr ln 0] g n K:=by
 refine ACalls.fold Xb ?_
 rw [←Jcc]
 simp only [QbK,Zb]
 refine Qb hx rfl ?_
 simp only [Ze,Zb]
 refine Qb hp (Zcz (k:=3) (by simp [encI])) ?_
 refine Zee hu.1 hu.2 (fun g1 n1 s1=> ?_)
 have p1:=s1.live hp
 have x1:=s1.live hx
 refine Jav rfl (Jav rfl ?_)
 change Zq (encI Xw) .exact g1 n1 _
 intro hn
 have s2:=(Sub.refl g1).new hn (some (.cells (encI Xw) .exact))
 have y2:upd g1 n1 (some (.cells (encI Xw) .exact)) n1=some (.cells (encI Xw) .exact):=Xa _ _ _
 rw [Xe]
 refine stI (e:=Qec u) y2 (fun y3=> ?_)
 have s3:Sub g1 (upd (upd g1 n1 (some (.cells (encI Xw) .exact))) n1 (some (.cells (encI (Qec u)) .exact))):=s2.upd_fresh _ hn
 generalize upd (upd g1 n1 (some (.cells (encI Xw) .exact))) n1 (some (.cells (encI (Qec u)) .exact))=g3 at y3 s3
 have p3:=s3.live p1
 have x3:=s3.live x1
 refine Qb x3 rfl (Qb x3 rfl (ldI y3 ?_))
 refine Zae ?_
 simp only [Ze,Zb,Xe]
 refine ⟨XZ _,?_⟩
 refine Zw p3 rfl (by simp [encI];omega) (JbB _) ?_
 rw [XeU (by simp [encI])]
 refine ⟨Qc _ _ hne,?_⟩
 refine QB (Xa _ _ _) rfl (by simp [encI,splice]) rfl ?_
 rw [XdG (by simp [encI,splice])]
 refine Ja (Sub.refl _) (hK _ _ _ (((Chg.of_sub (s1.trans s3)).updE _).updE _) ?_)
 rw [Xa]
 have e:decide (Jgz u=0)=(decode u).isSome:=by
  unfold Jgz
  cases (decode u).isSome<;>rfl
 rw [e]
 rfl
theorem XfY {ds:List Cd} {j:Nat} {d:Cd} (hp:g lp=some (.cells (ds.map J4).flatten .exact)) (hj:ds[j]? =some d) (hu:0≤d.u∧d.u<18446744073709551616)
  (hK: ∀g' n' (ds':List Cd),Chg (fun x=>x=lp) g g'→g' lp=some (.cells (ds'.map J4).flatten .exact)→ds'.map (·.u)=ds.map (·.u)→K (.tuple #[.agg (encI (Qec d.u)).toArray,.bool (decode d.u).isSome]) g' n'):AC ZaN [ptr lp (0+j*10)] g n K:=by
 refine ACalls.fold Xb ?_
 rw [←XcK]
 simp only [Qcp]
 refine ⟨rfl,?_⟩
 intro hn
 have s1:=(Sub.refl g).new hn (some (.cells [ptr lp (0+j*10)] .exact))
 have x1:upd g n (some (.cells [ptr lp (0+j*10)] .exact)) n=some (.cells [ptr lp (0+j*10)] .exact):=Xa _ _ _
 have hne:n≠lp:=fun e=>by rw [e,hp] at hn;cases hn
 have p1:=s1.live hp
 generalize upd g n (some (.cells [ptr lp (0+j*10)] .exact))=g1 at s1 x1 p1
 change Zq (encI Xw) .exact g1 (n+1) _
 intro hn2
 have s2:=(Sub.refl g1).new hn2 (some (.cells (encI Xw) .exact))
 have y2:upd g1 (n+1) (some (.cells (encI Xw) .exact)) (n+1)=some (.cells (encI Xw) .exact):=Xa _ _ _
 have x2:=s2.live x1
 have p2:=s2.live p1
 have hne2:n+1≠lp:=fun e=>by rw [e,p1] at hn2;cases hn2
 have sg:=s1.trans s2
 generalize upd g1 (n+1) (some (.cells (encI Xw) .exact))=g2 at y2 x2 p2 sg
 have hsplit:(ds.map J4).flatten=((ds.take j).map J4).flatten++J4 d++((ds.drop (j+1)).map J4).flatten:=by
  have e:ds=ds.take j++d::ds.drop (j+1):=by rw [←Xbo hj,List.take_append_drop]
  conv=>lhs;rw [e]
  simp
 have hAl:((ds.take j).map J4).flatten.length=j*10:=by
  rw [Xh J4 10 XbE,List.length_take,Nat.min_eq_left (Nat.le_of_lt (Zi hj))]
 rw [hsplit] at p2
 generalize hA:((ds.take j).map J4).flatten=A at*
 generalize hB:((ds.drop (j+1)).map J4).flatten=B at*
 have off:0+j*10=A.length:=by omega
 rw [off] at x2
 have fin: ∀(g3:G) (n3:Nat),Chg (fun x=>x=lp) g2 g3→g3 lp=some (.cells (A++J4 ⟨true,d.u⟩++B) .exact)→
   kLd g3 n 0 fun v9=>Jg v9 fun v10=>Qd v10 fun l11 o11=>Zo g3 l11 (o11+4) 5 fun c12=>kLd g3 n 0 fun v13=>Jg v13 fun v14=>Qd v14 fun l15 o15=>kLd g3 l15 (o15+9) fun v16=>Zn (.agg c12.toArray) fun cg4=>cg4.length=5∧Xu g3 (n+1) 0 cg4 fun g4=>
    (Qd (ptr n 0) fun l _=>g4 l=g3 l)∧(Qd (ptr l15 (o15+9)) fun l _=>g4 l=g3 l)∧Zo g4 (n+1) 0 5 fun r0=>Jc K (.tuple #[(.agg r0.toArray),v16]) g4 n3:=by
  intro g3 n3 c3 p3
  have x3:=c3.live hne x2
  have y3:=c3.live hne2 y2
  refine Qb x3 rfl ?_
  simp only [Ze,Zb]
  refine XA p3 (by simp [J4,encI];omega) ?_
  have e5:((A++J4 ⟨true,d.u⟩++B).drop (A.length+4)).take 5=encI (Qec d.u):=by
   rw [List.append_assoc,List.drop_append,List.drop_of_length_le (by omega),show A.length+4-A.length=4 by omega]
   rfl
  rw [e5]
  refine Qb x3 rfl ?_
  simp only [Ze,Zb]
  refine Qb p3 (Zcz (k:=9) (by simp [J4,encI])) ?_
  rw [Xe]
  refine stI (e:=Qec d.u) y3 (fun y4=> ?_)
  refine ⟨Qc _ _ (by omega),Qc _ _ (Ne.symm hne2),?_⟩
  refine ldI y4 ?_
  refine Ja (Sub.refl _) (hK _ _ (ds.set j ⟨true,d.u⟩) ?_ ?_ ?_)
  ·exact ((Chg.of_sub sg).trans c3).new (s1.none hn2) _
  ·rw [Qc _ _ (Ne.symm hne2),p3]
   congr 2
   have e:ds.set j ⟨true,d.u⟩=ds.take j++⟨true,d.u⟩::ds.drop (j+1):=by
    rw [List.set_eq_take_append_cons_drop,if_pos (Zi hj)]
   rw [e,←hA,←hB]
   simp
  ·rw [List.map_set]
   exact set_self (by rw [List.getElem?_map,hj];rfl)
 refine Qb x2 rfl ?_
 simp only [Ze,Zb]
 refine ACalls.fold Xb ?_
 rw [←Qc2]
 simp only [ZcC,Ze,Zb]
 refine ACalls.fold Xb ?_
 rw [←Qbb]
 simp only [XaI,Ze,Zb]
 obtain ⟨dn,u⟩:=d
 refine Zc7 (Qb p2 (Zcz (k:=0) (by simp [J4,encI])) ⟨rfl,?_⟩)
 cases dn with
 | true=>
  refine QbE (Ja (Sub.refl _) (ZaK (Zc rfl (Ja (Sub.refl _) ?_))))
  exact fin g2 _ Chg.refl p2
 | false=>
  refine QbE (Ja (Sub.refl _) (ZaK (Jd rfl ?_)))
  refine Jeh ?_
  refine ⟨by decide,Qb p2 (Zcz (k:=0) (by simp [J4,encI])) rfl,Qb p2 (Zcz (k:=1) (by simp [J4,encI])) rfl,?_⟩
  refine QB p2 rfl (by simp [J4,encI]) rfl ?_
  have em:(A++J4 ⟨false,u⟩++B).set (A.length+0+1) (.int .i32 1)=A++(J4 ⟨false,u⟩).set (0+1) (.int .i32 1)++B:=by
   rw [Nat.add_assoc];exact XdG (k:=0+1) (by simp [J4,encI]) _
  rw [em]
  refine QfM (m:=0) (s:=0) (A:=A) (B:=B) hu (Xa _ _ _) (by rw [Qc _ _ hne];exact x2) hne (fun v g3 n3 c3 p3=> ?_)
  have c2:Chg (fun x=>x=lp) g2 (upd g2 lp (some (.cells (A++(J4 ⟨false,u⟩).set (0+1) (.int .i32 1)++B) .exact))):=Chg.refl.updE _
  have c23:=c2.trans c3
  refine ⟨Qb p3 (Zcz (k:=1) (by simp [encI])) rfl,?_⟩
  refine QB p3 rfl (by simp [encI]) rfl ?_
  rw [XdG (k:=0) (by simp [encI])]
  refine QB (Xa _ _ _) rfl (by simp [encI]) rfl ?_
  refine Ja (Sub.refl _) ?_
  refine fin _ _ ((c23.updE _).updE _) ?_
  rw [Xa]
  have en: ∀(M:List Value),0+1<M.length→(A++M++B).set (A.length+0+1) (.int .i32 0)=A++M.set (0+1) (.int .i32 0)++B:=by
   intro M hM;rw [Nat.add_assoc];exact XdG (k:=0+1) hM _
  rw [en _ (by simp [encI])]
  rfl
end
end Go.Proofs.YtkdfaijmjmnhjaaGreat.Gen
namespace Go.Proofs.YtkdfaijmjmnhjaaGreat.Gen
open Go Go.Proofs.YtkdfaijmjmnhjaaGreat.Abs Go.RowKit
variable {g:G} {n:Nat}
section
variable {F:G} {o:Col Cl} {lx ls:Nat} {W:XaS} {w:CW} {S:Sys} {C:Cr} {i:Ins} {evs:List Evt} {K:Cont}
theorem Jfp {K:List Value→Prop} (k:K (xC w ls Xw (.slice none 0 0))):Xf [.pointer none,.pointer none,.int .i64 0,.int .i64 0,.int .i64 0,.int .i64 0,.int .i64 0,.slice none 0 0] [(0,none,ptr w.lc 0),(1,none,ptr ls 0)] K:=
 ⟨rfl,by decide,rfl,Nat.le_of_ble_eq_true rfl,k⟩
theorem CoH.notmem (h:CoH o g w C) {l:Nat} (hn:g l=none): ¬w.mem l:=by
 obtain ⟨ds,e1,e2⟩:=h.hp
 obtain ⟨L,f,hr⟩:=id h.hb
 rintro (e|e|e)
 ·rw [e,h.hc] at hn;cases hn
 ·rw [e,e2] at hn;cases hn
 ·rw [e,hr.hb] at hn;cases hn
theorem StH.begin (hs:SysH o g ls W S) (hc:CoH o g w C) {l:Nat} (hn:g l=none):StH (un w o g) o (upd g l (some (.cells (xC w ls Xw (.slice none 0 0)) .exact))) l ls W w S C Xw []:=by
 have ho:=hs.live.fresh hn
 have hm:=hc.notmem hn
 have s1:=(Sub.refl g).new hn (some (.cells (xC w ls Xw (.slice none 0 0)) .exact))
 have hf:un w o g l=none:=by rw [Jc7 hm ho];exact hn
 exact ⟨hs.mono s1,hc.mono s1,ho,hm,hf,QdC (Sub.refl _) hf _,_,Xa _ _ _,OutH.nil⟩
theorem OutH.slun {α:Type} {enc:α→List Value} {z:Nat} {v:Value} {xs:List α} {N:List Nat} (hz: ∀x,(enc x).length=z) (h:OutH enc z F N o g v xs) (hN: ∀l,w.mem l→l∈N):Sl enc z (un w o g) v xs:=by
 rcases h with ⟨rfl,rfl⟩|⟨l,off,cs,rfl,ho,_,hn,hg,hl,he⟩
 ·exact Sl.nil
 ·exact ⟨_,_,rfl,Xh enc z hz xs,.inr ⟨l,off,rfl⟩,fun _=>⟨l,off,cs,_,rfl,by rw [Jc7 (fun h=>hn (hN l h)) ho];exact hg,hl,he⟩⟩
def CW.L (w:CW):List Nat:=[w.lc,w.lp,w.lb]
theorem CW.memL {w:CW} {l:Nat} (h:w.mem l):l∈w.L:=by rcases h with rfl|rfl|rfl<;>simp [CW.L]
theorem CW.ofL {w:CW} {l:Nat} (h:l∈w.L):w.mem l:=by
 simp only [CW.L,List.mem_cons,List.not_mem_nil,or_false] at h
 exact h
theorem OutH.less {α:Type} {enc:α→List Value} {z:Nat} {v:Value} {xs:List α} {N N':List Nat} {F':G} (h:OutH enc z F N o g v xs) (hN: ∀l∈N',l∈N) (hF:Sub F' F):OutH enc z F' N' o g v xs:=by
 rcases h with h|⟨l,off,cs,rfl,ho,hf,hn,hg,hl,he⟩
 ·exact .inl h
 ·exact .inr ⟨l,off,cs,rfl,ho,hF.none hf,fun h=>hn (hN l h),hg,hl,he⟩
theorem StH.outF (h:StH F o g lx ls W w S C i evs) {K:Value→Prop} (k: ∀v,OutH JaM 5 F w.L o g v evs→K v):kLd g lx (0+7) K:=by
 obtain ⟨v,hx,ho⟩:=h.hx
 refine Qb hx (show (xC w ls i v)[0+7]? =some v from rfl) (k v (ho.less (fun l hl=> ?_) (Sub.refl _)))
 rcases CW.ofL hl with rfl|rfl|rfl<;>simp [CW.N]
theorem StH.out (h:StH F o g lx ls W w S C i evs) {K:Value→Prop} (k: ∀v,Sl JaM 5 (un w o g) v evs→K v):kLd g lx (0+7) K:=by
 obtain ⟨v,hx,ho⟩:=h.hx
 refine Qb hx (show (xC w ls i v)[0+7]? =some v from rfl) (k v (ho.slun ZY ?_))
 rintro l (rfl|rfl|rfl)<;>simp [CW.N]
theorem StH.seti (h:StH F o g lx ls W w S C i evs) (i':Ins) {K:G→Prop} (k: ∀g',StH F o g' lx ls W w S C i' evs→K g'):(encI i').length=5∧Xu g lx (0+2) (encI i') K:=by
 obtain ⟨v,hx,ho⟩:=h.hx
 refine ⟨XZ _,Zw hx rfl (by simp [xC,encI]) (JbB _) ?_⟩
 have e:splice (xC w ls i v) (0+2) (encI i')=xC w ls i' v:=rfl
 rw [e]
 refine k _ ⟨h.sys.same (Qci h.ox _),h.co.keep (fun l b hm ho' hg=>⟨ho',by rw [Qc _ _ (fun e=>h.nx (by rw [←e];exact hm))];exact hg⟩),h.ox,h.nx,h.fx,QdC h.fr h.fx _,v,Xa _ _ _,ho.upd (by simp [CW.N])⟩
theorem StH.code {g':G} {ds:List Cd} (h:StH F o g lx ls W w S C i evs) (hc:Chg (fun x=>x=w.lp) g g') (hp:g' w.lp=some (.cells (ds.map J4).flatten .exact)) (hd:ds.map (·.u)=C.us):StH F o g' lx ls W w S C i evs:=by
 obtain ⟨v,hx,ho⟩:=h.hx
 obtain ⟨L,f,hr⟩:=id h.co.hb
 refine ⟨h.sys.same (JeP h.sys.live hc (fun l e=>by rw [e];exact h.co.op)),⟨h.co.rl,h.co.oc,h.co.op,h.co.ob,h.co.n1,h.co.n2,h.co.n3,hc.live h.co.n1 h.co.hc,⟨ds,hd,hp⟩,h.co.hb.eq ((hc.live (Ne.symm h.co.n3) hr.hb).trans hr.hb.symm)⟩,h.ox,h.nx,h.fx,
  Xgs h.fr hc (fun l e=> .inr (.inl e)),v,hc.live (fun e=>h.nx (.inr (.inl e))) hx,?_⟩
 refine ho.keep fun l b hl ho' hg=>⟨ho',hc.live (fun e=>hl ?_) hg⟩
 rw [e];simp [CW.N]
theorem Zda (hs:SysH o g ls W S) (hc:CoH o g w C) {k:Nat} (hok:CSok C S k) (hk:k+3<100000) (hK: ∀v o' g' n' W',SysH o' g' ls W' (C.exec S).2.1→CoH o' g' w (C.exec S).1→Sub (un w o g) (un w o' g')→OutH JaM 5 (un w o g) w.L o' g' v (C.exec S).2.2→K v g' n'):
  AC Qo [ptr w.lc 0,ptr ls 0] g n K:=by
 refine ACalls.fold Xb ?_
 rw [←Zcw]
 simp only [ZbZ]
 refine QaY (Qu (fun h=>nomatch h) (fun _=>QaY (Qu (fun h=>nomatch h) (fun _=> ?_))))
 simp only [Ze,Zb]
 refine hc.ldt (k:=4) rfl (ZaK (Qu (fun hr=> ?_) (fun hr=> ?_)))
 ·have e:C.exec S=(C,S,[]):=by unfold Cr.exec;rw [if_pos (by simpa using hr)]
  rw [e] at hK
  exact Ja (Sub.refl _) (hK _ _ _ _ _ hs hc (Sub.refl _) OutH.nil)
 have hr': ¬C.runs=false:=by simp only [Bool.not_eq_false];simpa using hr
 refine Jfp ?_
 rw [Xe]
 intro hn
 have h1:=StH.begin hs hc hn
 generalize upd g n (some (.cells (xC w ls Xw (.slice none 0 0)) .exact))=g1 at h1
 refine h1.co.ldt (k:=0) rfl ?_
 refine h1.co.ldt (k:=1) rfl ?_
 rw [Jcg]
 have hp0:=hok.ok.place
 have jt: ∀(t:Env) (g2:G) (m:Nat),t 5=ptr n 0→t 6= .bool false→StH (un w o g) o g2 n ls W w S C Xw []∨(∃i,StH (un w o g) o g2 n ls W w S C i [])→C.exec S=C.trap S→ZO AC K t g2 m:=by
  intro t g2 m t5 t6 h2 e
  rw [e] at hK
  obtain ⟨i,h2⟩: ∃i,StH (un w o g) o g2 n ls W w S C i []:=by
   rcases h2 with h2|h2
   ·exact ⟨_,h2⟩
   ·exact h2
  simp only [ZO,t5,t6]
  refine ZaK (Jd rfl ?_)
  refine JdV h2 (by decide) (fun v g3 n3 h3=> ?_)
  simp only [Ze,Zb]
  refine h3.outF (fun v4 hv4=> ?_)
  exact Ja (Sub.refl _) (hK _ _ _ _ _ h3.sys h3.co h3.fr hv4)
 refine QdN (Xj (fun hlt=> ?_) (fun hlt=> ?_))
 ·have hpl:C.place.toNat<C.us.length:=by omega
  obtain ⟨u,hu⟩: ∃u,C.us[C.place.toNat]? =some u:=⟨_,List.getElem?_eq_getElem hpl⟩
  refine h1.co.ldt (k:=1) rfl ?_
  refine h1.co.ldt (k:=0) rfl ?_
  refine Jy hp0.1 hlt ?_
  obtain ⟨ds,e1,e2⟩:=h1.co.hp
  have hd: ∃d,ds[C.place.toNat]? =some d∧d.u=u:=by
   rw [←e1,List.getElem?_map] at hu
   cases hx:ds[C.place.toNat]? with
   | none=>rw [hx] at hu;cases hu
   | some d=>rw [hx] at hu;cases hu;exact ⟨d,rfl,rfl⟩
  obtain ⟨d,hd,rfl⟩:=hd
  have hur:=hok.ok.u d.u (List.mem_of_getElem? hu)
  refine XfY e2 hd hur (fun g2 n2 ds' c2 p2 e3=> ?_)
  have h2:=h1.code c2 p2 (e3.trans e1)
  refine Jav rfl (Jav rfl ?_)
  rw [Xe]
  refine h2.seti (Qec d.u) (fun g3 h3=> ?_)
  have hex:C.exec S=(match decode d.u with|none=>C.trap S|some i=>C.doX S i):=by
   unfold Cr.exec
   rw [if_neg hr',hu]<;>rfl
  cases hdec:decode d.u with
  | none=>
   rw [hdec] at hex
   exact jt _ _ _ rfl rfl (.inr ⟨_,h3⟩) hex
  | some i=>
   rw [hdec] at hex
   have ei:Qec d.u=i:=by unfold Qec;rw [hdec];rfl
   rw [ei] at h3
   obtain ⟨q1,q2,q3⟩:=Qc3 hdec
   rw [hex] at hK
   have t5: ∀(t:Env) (m:Nat),t 5=ptr n 0→t 6= .bool true→ZO AC K t g3 m:=by
    intro t m t5 t6
    simp only [ZO,t5,t6]
    refine ZaK (Zc rfl ?_)
    refine Jgc h3 hok.wf hk hok.ok hok.cn q3 ⟨by rw [q1];exact Qd3 hur.1,q2⟩ (by decide) ⟨hp0.1,by have:=hok.ok.us;omega⟩ (fun v4 o4 g4 n4 W4 h4=> ?_)
    simp only [Ze,Zb]
    refine h4.outF (fun v5 hv5=> ?_)
    exact Ja (Sub.refl _) (hK _ _ _ _ _ h4.sys h4.co h4.fr hv5)
   exact t5 _ _ rfl rfl
 ·refine jt _ _ _ rfl (by show Value.bool (decide (C.place<(C.us.length:Int)))=_;rw [decide_eq_false hlt]) (.inl h1) ?_
  unfold Cr.exec
  rw [if_neg hr',List.getElem?_eq_none (by omega)]
theorem QaT (hs:SysH o g ls W S) (hc:CoH o g w C) {k:Nat} (hok:CSok C S k) (hk:k+3<100000) (hK: ∀v o' g' n' W',SysH o' g' ls W' (C.exec S).2.1→CoH o' g' w (C.exec S).1→Sub (un w o g) (un w o' g')→Sl JaM 5 (un w o' g') v (C.exec S).2.2→K v g' n'):
  AC Qo [ptr w.lc 0,ptr ls 0] g n K:=
 Zda hs hc hok hk fun v o' g' n' W' h1 h2 h3 h4=>hK v o' g' n' W' h1 h2 h3 (h4.slun ZY (fun _ h=>CW.memL h))
theorem Xb1 (h:StH F o g lx ls W w S C i evs) (line kind:Int) (hl:evs.length<900) (hw:0≤C.waits∧C.waits≤16)
  (hK: ∀o' g' n' W',StH F o' g' lx ls W' w (C.flushX S line kind).1.2.1 (C.flushX S line kind).1.1 i (evs++(C.flushX S line kind).1.2.2)→K (.bool (C.flushX S line kind).2) g' n'):
  AC JI [ptr lx 0,.int .i64 line,.int .i64 kind] g n K:=by
 refine ACalls.fold Xb ?_
 rw [←Xce]
 simp only [JbD,Ze,Zb]
 refine h.ldc ?_
 simp only [Ze,Zb]
 refine h.co.ldt (k:=3) rfl (Xem (Xj (fun h16=> ?_) (fun h16=> ?_)))
 ·have e:C.flushX S line kind=((C,S,[]),false):=by unfold Cr.flushX;rw [if_pos h16]
  rw [e] at hK
  have:=hK o g n W
  simp only [List.append_nil] at this
  exact Ja (Sub.refl _) (hK _ _ _ _ (by simp only [List.append_nil];exact h))
 refine h.lds (h.ldc ?_)
 simp only [Ze,Zb]
 refine h.co.ldid ?_
 refine Jev h.sys _ _ _ (fun o2 g2 n2 W2 u2 h2=> ?_)
 have h2':=h.sysop u2 h2
 refine QbE (Xj (fun hne=> ?_) (fun hne=> ?_))
 ·have e:C.flushX S line kind=((C,(S.flush C.id line kind).1,[]),false):=by unfold Cr.flushX;rw [if_neg h16,if_pos hne]
  rw [e] at hK
  exact Ja (Sub.refl _) (hK _ _ _ _ (by simp only [List.append_nil];exact h2'))
 ·have e:C.flushX S line kind=(({ C with waits:=C.waits+1 },(S.flush C.id line kind).1,[C.ev 13 line 0 0]),true):=by unfold Cr.flushX;rw [if_neg h16,if_neg hne]
  rw [e] at hK
  refine J3 h2' (by omega) _ _ _ _ (fun v3 g3 n3 h3=> ?_)
  try simp only [Ze,Zb]
  refine h3.ldc ?_
  simp only [Ze,Zb]
  refine h3.co.ldt (k:=3) rfl ?_
  rw [Jh,Jf (by omega) (by omega)]
  refine h3.co.st (k:=3) (C':={ C with waits:=C.waits+1 }) (by decide) rfl rfl ?_
  exact Ja (Sub.refl _) (hK _ _ _ _ (h3.setC h3.co.rl rfl rfl rfl))
set_option maxRecDepth 100000 in
theorem ZcE (hs:SysH o g ls W S) (hc:CoH o g w C) {k:Nat} (hok:CSok C S k) (hk:k<100000) (hK: ∀v o' g' n' W',SysH o' g' ls W' (C.drain S).2.1→CoH o' g' w (C.drain S).1→Sub (un w o g) (un w o' g')→OutH JaM 5 (un w o g) w.L o' g' v (C.drain S).2.2→K v g' n'):
  AC Jo [ptr w.lc 0,ptr ls 0] g n K:=by
 refine ACalls.fold Xb ?_
 rw [←Jck]
 simp only [QbD]
 refine QaY (Qu (fun h=>nomatch h) (fun _=>QaY (Qu (fun h=>nomatch h) (fun _=> ?_))))
 simp only [Ze,Zb]
 refine hc.ldt (k:=2) rfl ?_
 refine Qcz hc.hb (fun g1 n1 s1=> ?_)
 have hs1:=hs.mono s1
 have hc1:=hc.mono s1
 have u1:Sub (un w o g) (un w o g1):=QaW (Sub.uncs hs.live s1)
 refine Jav rfl (Jav rfl ?_)
 change Zq (Zj Zm) .exact g1 n1 _
 intro hn1
 have s2:=(Sub.refl g1).new hn1 (some (.cells (Zj Zm) .exact))
 rw [Xe]
 refine Xf9 (e:=C.b.headD Zm) (z:=Zm) (Xa _ _ _) (fun x3=> ?_)
 have s3:Sub g1 (upd (upd g1 n1 (some (.cells (Zj Zm) .exact))) n1 (some (.cells (Zj (C.b.headD Zm)) .exact))):=s2.upd_fresh _ hn1
 have hs3:=hs1.mono s3
 have hc3:=hc1.mono s3
 have u3:=u1.trans (QaW (w:=w) (Sub.uncs hs1.live s3))
 have o5:o n1=none:=hs1.live.fresh hn1
 generalize upd (upd g1 n1 (some (.cells (Zj Zm) .exact))) n1 (some (.cells (Zj (C.b.headD Zm)) .exact))=g3 at x3 s3 hs3 hc3 u3
 refine ZaK ?_
 cases hb:C.b with
 | nil=>
  refine Jd rfl ?_
  have e:C.drain S=(C,S,[]):=by unfold Cr.drain;rw [hb]
  rw [e] at hK
  exact Ja (Sub.refl _) (hK _ _ _ _ _ hs3 hc3 u3 OutH.nil)
 | cons e t=>
  refine Zc rfl ?_
  rw [hb] at x3
  change g3 n1=some (.cells (Zj e) .exact) at x3
  have he:=hok.ok.e e (by rw [hb];exact List.mem_cons_self ..)
  refine Jfp ?_
  rw [Xe]
  intro hn4
  have h4:=StH.begin hs3 hc3 hn4
  have s4:=(Sub.refl g3).new hn4 (some (.cells (xC w ls Xw (.slice none 0 0)) .exact))
  have x4:=s4.live x3
  generalize upd g3 (n1+1) (some (.cells (xC w ls Xw (.slice none 0 0)) .exact))=g4 at h4 x4 s4
  have j2: ∀(t':Env) {o':Col Cl} {W':XaS} {R:Res} (g5:G) (m:Nat),t' 7=ptr (n1+1) 0→R=C.drain S→StH (un w o g3) o' g5 (n1+1) ls W' w R.2.1 R.1 Xw R.2.2→Xae AC K t' g5 m:=by
   intro t' o' W' R g5 m t7 eR h5
   subst eR
   simp only [Xae,t7,Ze,Zb]
   refine h5.outF (fun v6 hv6=> ?_)
   exact Ja (Sub.refl _) (hK _ _ _ _ _ h5.sys h5.co (u3.trans h5.fr) (hv6.less (fun _ h=>h) u3))
  have j1: ∀(t':Env) {o':Col Cl} {W':XaS} {C':Cr} {S':Sys} {evs:List Evt} (b:Bool) (g5:G) (m:Nat),t' 7=ptr (n1+1) 0→t' 0=ptr w.lc 0→t' 8= .bool b→(if b then (C'.pop,S',evs) else (C',S',evs))=C.drain S→StH (un w o g3) o' g5 (n1+1) ls W' w S' C' Xw evs→Zl AC K t' g5 m:=by
   intro t' o' W' C' S' evs b g5 m t7 t0 t8 eR h5
   simp only [Zl,t0,t8]
   cases b with
   | true=>
    refine Jd rfl ?_
    simp only [Ze,Zb]
    refine h5.co.ldt (k:=2) rfl ?_
    refine QfG h5.co.hb (fun v6 g6 n6 c6 b6=> ?_)
    exact j2 _ (R:=(C'.pop,S',evs)) _ _ t7 eR (h5.buf c6 b6)
   | false=>
    refine Zc rfl ?_
    exact j2 _ (R:=(C',S',evs)) _ _ t7 eR h5
  have hw:=hok.ok.waits
  have hd:C.drain S=(if e.kind=9 then (if (S.store C.id e.line e.word e.val).2 then (C.pop,(S.store C.id e.line e.word e.val).1,[C.ev 3 e.line e.word e.val]) else (C,(S.store C.id e.line e.word e.val).1,[]))
   else if e.kind=12 then (if (C.flushX S e.line 4).2 then ((C.flushX S e.line 4).1.1.pop,(C.flushX S e.line 4).1.2) else (C.flushX S e.line 4).1)
   else if e.kind=13 then (if (C.flushX S e.line 5).2 then ((C.flushX S e.line 5).1.1.pop,(C.flushX S e.line 5).1.2) else (C.flushX S e.line 5).1)
   else if e.sent then (if C.waits=0 then (C.pop,S,[]) else (C,S,[]))
   else if (C.flushX S e.line 5).2 then ({ (C.flushX S e.line 5).1.1 with b:={ e with sent:=true }::t },(C.flushX S e.line 5).1.2) else (C.flushX S e.line 5).1):=by
   unfold Cr.drain;rw [hb]
  refine Qb x4 rfl (Zae (Xj (fun k9=> ?_) (fun k9=> ?_)))
  ·rw [if_pos k9] at hd
   refine h4.co.ldid ?_
   refine Qb x4 rfl (Qb x4 rfl (Qb x4 rfl ?_))
   refine Xda h4.sys (hok.wf.fit hk) _ _ _ _ (fun o5' g5 n5 W5 u5 h5=> ?_)
   have h5':=h4.sysop u5 h5
   have x5:=(XcM o5 x4 u5).2
   refine Qu (fun hh=> ?_) (fun hh=> ?_)
   ·rw [if_pos hh] at hd
    refine Qb x5 rfl (Qb x5 rfl (Qb x5 rfl ?_))
    refine J3 h5' (by decide) _ _ _ _ (fun v6 g6 n6 h6=> ?_)
    refine j1 _ (C':=C) (S':=(S.store C.id e.line e.word e.val).1) (evs:=[C.ev 3 e.line e.word e.val]) true _ _ rfl rfl ?_ hd.symm h6
    show Value.bool _=_;congr 1
   ·rw [if_neg (by rw [hh];decide)] at hd
    refine j1 _ (C':=C) (S':=(S.store C.id e.line e.word e.val).1) (evs:=[]) false _ _ rfl rfl ?_ hd.symm h5'
    show Value.bool _=_;congr 1
  rw [if_neg k9] at hd
  have fl: ∀(b:Bool) (kind:Int) (o5':Col Cl) (g5:G) (n5:Nat) (W5:XaS) (t':Env),t' 7=ptr (n1+1) 0→t' 0=ptr w.lc 0→t' 8= .bool (C.flushX S e.line kind).2→
    C.drain S=(if (C.flushX S e.line kind).2 then ((C.flushX S e.line kind).1.1.pop,(C.flushX S e.line kind).1.2) else (C.flushX S e.line kind).1)→
    StH (un w o g3) o5' g5 (n1+1) ls W5 w (C.flushX S e.line kind).1.2.1 (C.flushX S e.line kind).1.1 Xw ([]++(C.flushX S e.line kind).1.2.2)→Zl AC K t' g5 n5:=by
   intro b kind o5' g5 n5 W5 t' t7 t0 t8 e5 h5
   rw [List.nil_append] at h5
   refine j1 t' _ _ _ t7 t0 t8 ?_ h5
   rw [e5]
  refine Zae (Xj (fun k12=> ?_) (fun k12=> ?_))
  ·rw [if_pos k12] at hd
   refine Qb x4 rfl ?_
   refine Xb1 h4 _ _ (by decide) hw (fun o5' g5 n5 W5 h5=> ?_)
   exact fl true 4 _ _ _ _ _ rfl rfl rfl hd h5
  rw [if_neg k12] at hd
  refine Zae (Xj (fun k13=> ?_) (fun k13=> ?_))
  ·rw [if_pos k13] at hd
   refine Qb x4 rfl ?_
   refine Xb1 h4 _ _ (by decide) hw (fun o5' g5 n5 W5 h5=> ?_)
   exact fl true 5 _ _ _ _ _ rfl rfl rfl hd h5
  rw [if_neg k13] at hd
  have k14:e.kind=14:=by have:=he.kind;omega
  refine Qb x4 rfl (Qu (fun hsent=> ?_) (fun hsent=> ?_))
  ·rw [if_pos hsent] at hd
   refine h4.co.ldt (k:=3) rfl (Zae ?_)
   refine Qb x4 (show (Zj e)[0+4]? =some (.bool e.sent) from rfl) (ZaK (Zc (by rw [hsent];rfl) ?_))
   refine j1 _ (C':=C) (S':=S) (evs:=[]) (decide (C.waits=0)) _ _ rfl rfl rfl ?_ h4
   rw [hd]
   by_cases h0:C.waits=0
   ·rw [if_pos h0,decide_eq_true h0];rfl
   ·rw [if_neg h0,decide_eq_false h0];rfl
  ·rw [if_neg (by rw [hsent];decide)] at hd
   refine Qb x4 (show (Zj e)[0+4]? =some (.bool e.sent) from rfl) (ZaK (Jd (by rw [hsent];rfl) ?_))
   refine Qb x4 rfl ?_
   refine Xb1 h4 _ _ (by decide) hw (fun o5' g5 n5 W5 h5=> ?_)
   rw [List.nil_append] at h5
   refine Qu (fun hh=> ?_) (fun hh=> ?_)
   ·rw [if_pos hh] at hd
    refine h5.co.ldt (k:=2) rfl ?_
    obtain ⟨wv,hwv⟩:=QeC C S e.line 5
    have hb5:=h5.co.hb
    have eb:(C.flushX S e.line 5).1.1.b=e::t:=by rw [hwv];exact hb
    rw [eb] at hb5
    refine Jff hb5 k14 (fun v6 g6 n6 c6 b6=> ?_)
    refine j1 _ (C':={ (C.flushX S e.line 5).1.1 with b:={ e with sent:=true }::t }) (S':=(C.flushX S e.line 5).1.2.1) (evs:=(C.flushX S e.line 5).1.2.2) false _ _ rfl rfl ?_ hd.symm (h5.buf c6 b6)
    show Value.bool _=_;congr 1
   ·rw [if_neg (by rw [hh];decide)] at hd
    refine j1 _ (C':=(C.flushX S e.line 5).1.1) (S':=(C.flushX S e.line 5).1.2.1) (evs:=(C.flushX S e.line 5).1.2.2) false _ _ rfl rfl ?_ hd.symm h5
    show Value.bool _=_;congr 1
theorem Zc1 (hs:SysH o g ls W S) (hc:CoH o g w C) {k:Nat} (hok:CSok C S k) (hk:k<100000) (hK: ∀v o' g' n' W',SysH o' g' ls W' (C.drain S).2.1→CoH o' g' w (C.drain S).1→Sub (un w o g) (un w o' g')→Sl JaM 5 (un w o' g') v (C.drain S).2.2→K v g' n'):
  AC Jo [ptr w.lc 0,ptr ls 0] g n K:=
 ZcE hs hc hok hk fun v o' g' n' W' h1 h2 h3 h4=>hK v o' g' n' W' h1 h2 h3 (h4.slun ZY (fun _ h=>CW.memL h))
end
end Go.Proofs.YtkdfaijmjmnhjaaGreat.Gen
namespace Go.Proofs.YtkdfaijmjmnhjaaGreat.Gen
open Go Go.Proofs.YtkdfaijmjmnhjaaGreat.Abs Go.RowKit
variable {g:G} {n:Nat}
section
variable {F:G} {o:Col Cl} {lx ls:Nat} {W:XaS} {w:CW} {S:Sys} {C:Cr} {K:Cont}
theorem Qga {a b c:Int} {K:List Value→Prop} (k:K (JaM ⟨a,b,c,0,0⟩)):Xf [.int .i64 0,.int .i64 0,.int .i64 0,.int .i64 0,.int .u64 0] [(0,none,.int .i64 a),(1,none,.int .i64 b),(2,none,.int .i64 c)] K:=
 ⟨rfl,by decide,rfl,Nat.le_of_ble_eq_true rfl,rfl,Nat.le_of_ble_eq_true rfl,k⟩
theorem Zdw (hs:SysH o g ls W S) (hc:CoH o g w C) (hw:0≤C.waits∧C.waits≤16) (m:Ms) (hK: ∀v g' n',SysH o g' ls W S→CoH o g' w (C.hear m).1→Sub (un w o g) (un w o g')→Sl JaM 5 (un w o g') v (C.hear m).2→K v g' n'):
  AC JN [ptr w.lc 0,.agg (Qk m).toArray] g n K:=by
 refine ACalls.fold Xb ?_
 rw [←Jcw]
 simp only [JbX,Xe]
 intro hn
 have s1:=(Sub.refl g).new hn (some (.cells (Qk m) .exact))
 have x1:upd g n (some (.cells (Qk m) .exact)) n=some (.cells (Qk m) .exact):=Xa _ _ _
 have hs1:=hs.mono s1
 have hc1:=hc.mono s1
 have u1:Sub (un w o g) (un w o (upd g n (some (.cells (Qk m) .exact)))):=QaW (Sub.uncs hs.live s1)
 have mn: ¬w.mem n:=hc.notmem hn
 generalize upd g n (some (.cells (Qk m) .exact))=g1 at s1 x1 hs1 hc1 u1
 have nil:(C.hear m)=(C,[])→ ∀m',Jc K (.slice none 0 0) g1 m':=by
  intro e m'
  rw [e] at hK
  exact Ja (Sub.refl _) (hK _ _ _ hs1 hc1 u1 Sl.nil)
 refine QaY (Qu (fun h=>nomatch h) (fun _=> ?_))
 refine Qb x1 rfl (QbE (Xj (fun h1=>nil (by unfold Cr.hear;rw [if_neg (fun k=>h1 k.1)]) _) (fun h1=> ?_)))
 simp only [Ze,Zb]
 refine hc1.ldt (k:=3) rfl (Zae (Xj (fun h2=>nil (by unfold Cr.hear;rw [if_neg (fun k=>k.2 h2)]) _) (fun h2=> ?_)))
 have e:C.hear m=({ C with waits:=C.waits-1 },[C.ev 6 m.line 0 0]):=by unfold Cr.hear;rw [if_pos ⟨by simpa using h1,h2⟩]
 rw [e] at hK
 refine hc1.ldt (k:=3) rfl ?_
 rw [JaD,Jf (by omega) (by omega)]
 refine hc1.st (k:=3) (C':={ C with waits:=C.waits-1 }) (by decide) rfl rfl ?_
 have hc2:CoH o (upd g1 w.lc (some (.cells (coC w { C with waits:=C.waits-1 }) .exact))) w { C with waits:=C.waits-1 }:=hc1.setC hc1.rl rfl rfl rfl
 have hs2:=hs1.same (Qci hc1.oc (some (.cells (coC w { C with waits:=C.waits-1 }) .exact)))
 have u2:Sub (un w o g) (un w o (upd g1 w.lc (some (.cells (coC w { C with waits:=C.waits-1 }) .exact)))):=by rw [Qgo (.inl rfl)];exact u1
 have x2:upd g1 w.lc (some (.cells (coC w { C with waits:=C.waits-1 }) .exact)) n=some (.cells (Qk m) .exact):=by rw [Qc _ _ (fun e=>mn (.inl e))];exact x1
 generalize upd g1 w.lc (some (.cells (coC w { C with waits:=C.waits-1 }) .exact))=g2 at hc2 hs2 u2 x2
 refine hc2.ldid ?_
 refine Qb x2 rfl (Qga (JeE ?_))
 intro hn3
 have s3:=(Sub.refl g2).new hn3 (some (.cells (JaM ⟨6,C.id,m.line,0,0⟩) .exact))
 refine Ja (Sub.refl _) (hK _ _ _ (hs2.mono s3) (hc2.mono s3) (u2.trans (QaW (Sub.uncs hs2.live s3))) ?_)
 refine Sl.one (ZY _) (bk:= .exact) ?_
 rw [Jc7 (hc2.notmem hn3) (hs2.live.fresh hn3),Xa]
 rfl
theorem Xdo (hc:CoH o g w C) (hK: ∀n',K (.bool C.runs) g n'):AC Qaj [ptr w.lc 0] g n K:=by
 refine ACalls.fold Xb ?_
 rw [←Jcq]
 simp only [QbY]
 rw [Zdk]
 refine Jd rfl ?_
 rw [Ze,Zb]
 exact hc.ldt (k:=4) rfl (Ja (Sub.refl _) (hK _))
theorem Ze7 (hc:CoH o g w C) (hK: ∀g' n',Sub g g'→K (.agg (C.r.map (.int .u64 ·)).toArray) g' n'):AC QaG [ptr w.lc 0] g n K:=by
 have hrl:=hc.rl
 refine ACalls.fold Xb ?_
 rw [←Zct]
 simp only [QbV]
 intro hn
 have s1:=(Sub.refl g).new hn (some (.cells [(.int .u64 0),(.int .u64 0),(.int .u64 0),(.int .u64 0),(.int .u64 0),(.int .u64 0),(.int .u64 0),(.int .u64 0)] .exact))
 have hc1:=hc.mono s1
 have x1:upd g n (some (.cells [(.int .u64 0),(.int .u64 0),(.int .u64 0),(.int .u64 0),(.int .u64 0),(.int .u64 0),(.int .u64 0),(.int .u64 0)] .exact)) n=some (.cells [(.int .u64 0),(.int .u64 0),(.int .u64 0),(.int .u64 0),(.int .u64 0),(.int .u64 0),(.int .u64 0),(.int .u64 0)] .exact):=Xa _ _ _
 generalize upd g n _=g1 at s1 hc1 x1
 refine QaY (Qu (fun h=>nomatch h) (fun _=> ?_))
 rw [Ze,Zb]
 refine XA hc1.hc (by rw [Xer hrl];decide) ?_
 have e:((coC w C).drop (0+1)).take 8=C.r.map (.int .u64 ·):=by
  unfold coC
  rw [List.append_assoc]
  rw [List.drop_left' (show ([Value.int .i64 C.id]).length=0+1 from rfl)]
  exact List.take_left' (by rw [List.length_map,hrl])
 rw [e,Xe]
 refine ⟨by rw [List.length_map,hrl],Zw x1 rfl (by rw [List.length_map,hrl];decide) (by intro v hv;obtain ⟨x,_,rfl⟩:=List.mem_map.1 hv;rfl) ?_⟩
 rw [Zz (by rw [List.length_map,hrl];rfl)]
 refine XA (Xa _ _ _) (by rw [List.length_map,hrl];decide) ?_
 rw [List.drop_zero,List.take_of_length_le (by rw [List.length_map,hrl];decide)]
 exact Ja (Sub.refl _) (hK _ _ (s1.upd_fresh _ hn))
theorem QfN {e:SE} {K:List Value→Prop} (k:K (Zj e)):Xf (reps 1 [.int .i64 0,.int .i64 0,.int .i64 0,.int .u64 0,.bool false]) [(0,(some 5),(.agg (Zj e).toArray))] K:=⟨rfl,by decide,k⟩
theorem XfR {lb:Nat} {room:Int} {b:List SE} (h:BufH g lb room b) (hK: ∀v g' n',Sub g g'→Sl Zj 5 g' v b→K v g' n'):AC ZaE [ptr lb 0] g n K:=by
 refine ACalls.fold Xb ?_
 rw [←Jcb]
 simp only [JbF]
 refine Jcm h (fun n1=> ?_)
 obtain ⟨L,f,hr⟩:=h
 have hn16:=hr.nl
 refine X8 (m:=b.length) (Inv:=fun m t g1 n1=> ∃(j:Nat) (v:Value),m+j=b.length∧t 0=ptr lb 0∧t 3=v∧t 6= .int .i64 (b.length:Nat)∧t 7= .int .i64 (j:Nat)∧Sub g g1∧OwnS Zj 5 g g1 v (b.take j)) ?_
  ⟨0,_,by omega,rfl,rfl,rfl,rfl,Sub.refl _,OwnS.nil⟩
 rintro I m t g1 n1 ih ⟨j,v,hm,q0,q3,q6,q7,s1,ho⟩
 simp only [Qa1]
 rw [q7,q6]
 refine QdN (Xj (fun hj=> ?_) (fun hj=> ?_))
 ·have hj':j<b.length:=by omega
  obtain ⟨e,he⟩: ∃e,b[j]? =some e:=⟨_,List.getElem?_eq_getElem hj'⟩
  have hr1:=hr.mono s1
  rw [q0]
  simp only [Ze,Zb]
  refine Qce hr1.len hr1.fl hr1.hb (by omega) (by omega) (fun n2=> ?_)
  rw [Int.toNat_natCast]
  have hmod:(f+j)%16<16:=Nat.mod_lt _ (by decide)
  refine Xd8 (by omega) (by omega) ?_
  rw [Zb,Int.toNat_natCast]
  refine hr1.ent he ?_
  refine QfN ?_
  intro hn
  have s2:=(Sub.refl g1).new hn (some (.cells (Zj e) .exact))
  have x2:upd g1 n2 (some (.cells (Zj e) .exact)) n2=some (.cells (Zj e) .exact):=Xa _ _ _
  rw [q3]
  refine (ho.mono s2).append (s1.trans s2) (Sl.one (Jz _) x2) QbO (by decide) (by rw [List.length_take,List.length_singleton];omega) (by rw [List.length_take,List.length_singleton];omega) (fun v' g3 n3 k1 k2 _ _=> ?_)
  rw [Jh,JaL (by omega)]
  refine ih (m-1) _ _ _ (by omega) ⟨j+1,v',by omega,q0,rfl,q6,rfl,k1,?_⟩
  rw [take_add he];exact k2
 ·have hjl:b.take j=b:=List.take_of_length_le (by omega)
  rw [q3]
  rw [hjl] at ho
  exact Ja (Sub.refl _) (hK _ _ _ s1 ho.sl)
theorem ZcF (hc:CoH o g w C) (hK: ∀v g' n',Sub g g'→Sl Zj 5 g' v C.b→K v g' n'):AC J7 [ptr w.lc 0] g n K:=by
 refine ACalls.fold Xb ?_
 rw [←JbZ]
 simp only [Qbx]
 refine QaY (Qu (fun h=>nomatch h) (fun _=> ?_))
 rw [Ze,Zb]
 refine hc.ldt (k:=2) rfl ?_
 refine XfR hc.hb (fun v g' n' hs hv=> ?_)
 exact Ja (Sub.refl _) (hK _ _ _ hs hv)
set_option maxRecDepth 100000 in
theorem XdS {room:Int} (hr:1≤room∧room≤16) (hK: ∀l g' n',g l=none→Sub g g'→BufH g' l room []→K (.tuple #[ptr l 0,.int .i64 0]) g' n'):AC Zb2 [.int .i64 room] g n K:=by
 refine ACalls.fold Xb ?_
 rw [←Zew]
 simp only [ZeM]
 refine QdN (Xj (fun h=>by omega) (fun _=>Jf5 (Xj (fun h=>by omega) (fun _=> ?_))))
 refine ⟨rfl,by decide,?_⟩
 simp only [Jp,Xe]
 intro hn
 refine Ja (Sub.refl _) (hK _ _ _ hn ((Sub.refl g).new hn _) ⟨List.replicate 16 Zm,0,by simp,by decide,by simp,(fun i e h=>nomatch h),?_⟩)
 rw [Xa]
 rfl
theorem XgO (k:Nat):reps k [(.int .u32 0),(.int .i32 0),(.int .u32 0),(.int .u64 0),(.int .i64 0),(.int .i64 0),(.int .i64 0),(.int .i64 0),(.int .i64 0),(.bool false)]=((List.replicate k (⟨false,0⟩:Cd)).map J4).flatten:=Zao (enc:=J4) ⟨false,0⟩ k
theorem ZgX {ds:List Cd} {j:Nat} {u:Int} (hj:ds[j]? =some ⟨false,0⟩):(ds.map J4).flatten.set (j*10+3) (.int .u64 u)=((ds.set j ⟨false,u⟩).map J4).flatten:=by
 have gen: ∀{xs:List Cd} {i:Nat},xs[i]? =some ⟨false,0⟩→(xs.map J4).flatten.set (i*10+3) (.int .u64 u)=((xs.set i ⟨false,u⟩).map J4).flatten:=by
  intro xs
  induction xs with
  | nil=>intro i h;cases i<;>cases h
  | cons y ys ih=>
   intro i h
   cases i with
   | zero=>
    cases h
    simp only [List.set_cons_zero,List.map_cons,List.flatten_cons,Nat.zero_mul,Nat.zero_add]
    rw [List.set_append_left _ _ (by rw [XbE];decide)]
    rfl
   | succ i=>
    simp only [List.set_cons_succ,List.map_cons,List.flatten_cons]
    rw [List.set_append_right _ _ (by rw [XbE];omega),XbE,show (i+1)*10+3-10=i*10+3 by omega,ih h]
 exact gen hj
set_option maxRecDepth 100000 in
theorem Zd2 {id room:Int} {v:Value} {us:List Int} (hv:Sl Xdi 1 (unc o g) v us) (hL:Live o g) (hid:0≤id∧id<8) (hr:1≤room∧room≤16) (hl:us.length≤4096)
  (hK: ∀(w:CW) g' n',Sub g g'→(∀l,w.mem l→g l=none)→CoH o g' w (JbI id room us)→K (.tuple #[ptr w.lc 0,.int .i64 0]) g' n'):AC Zbk [.int .i64 id,.int .i64 room,v] g n K:=by
 have hv:=hv.mono (J8 o g)
 refine ACalls.fold Xb ?_
 rw [←Jen]
 simp only [ZeO]
 refine QdN (Xj (fun h=>by omega) (fun _=>Xem (Xj (fun h=>by omega) (fun _=> ?_))))
 refine XdS hr (fun lb g1 n1 fb s1 b1=> ?_)
 refine Jav rfl (Jav rfl (QbE (Zc rfl ?_)))
 have hv1:=hv.mono s1
 refine hv1.len (Jf5 (Xj (fun h=>by omega) (fun _=>hv1.len ?_)))
 refine ⟨by omega,by omega,by omega,by omega,?_⟩
 intro hn1
 simp only [Int.toNat_natCast]
 rw [XgO]
 have s2:=(Sub.refl g1).new hn1 (some (.cells ((List.replicate us.length (⟨false,0⟩:Cd)).map J4).flatten .exact))
 have p2:upd g1 n1 (some (.cells ((List.replicate us.length (⟨false,0⟩:Cd)).map J4).flatten .exact)) n1=some (.cells ((List.replicate us.length (⟨false,0⟩:Cd)).map J4).flatten .exact):=Xa _ _ _
 refine ⟨rfl,by decide,rfl,Nat.le_of_ble_eq_true rfl,rfl,Nat.le_of_ble_eq_true rfl,rfl,Nat.le_of_ble_eq_true rfl,?_⟩
 simp only [Jp,Xe]
 change Zq (coC ⟨n1+1,n1,lb⟩ (JbI id room us)) .exact _ _ _
 intro hn2
 have hg1:g1 (n1+1)=none:=s2.none hn2
 have s3:=s2.new hn2 (some (.cells (coC ⟨n1+1,n1,lb⟩ (JbI id room us)) .exact))
 have c3:upd (upd g1 n1 (some (.cells ((List.replicate us.length (⟨false,0⟩:Cd)).map J4).flatten .exact))) (n1+1) (some (.cells (coC ⟨n1+1,n1,lb⟩ (JbI id room us)) .exact)) (n1+1)=some (.cells (coC ⟨n1+1,n1,lb⟩ (JbI id room us)) .exact):=Xa _ _ _
 have p3:upd (upd g1 n1 (some (.cells ((List.replicate us.length (⟨false,0⟩:Cd)).map J4).flatten .exact))) (n1+1) (some (.cells (coC ⟨n1+1,n1,lb⟩ (JbI id room us)) .exact)) n1=some (.cells ((List.replicate us.length (⟨false,0⟩:Cd)).map J4).flatten .exact):=by rw [Qc _ _ (by omega)];exact p2
 generalize upd (upd g1 n1 (some (.cells ((List.replicate us.length (⟨false,0⟩:Cd)).map J4).flatten .exact))) (n1+1) (some (.cells (coC ⟨n1+1,n1,lb⟩ (JbI id room us)) .exact))=g3 at s3 c3 p3
 refine (hv1.mono s3).len ?_
 have lbne:n1≠lb:=fun e=>by
  obtain ⟨L,f,hr⟩:=b1
  rw [e,hr.hb] at hn1;cases hn1
 have lbne2:n1+1≠lb:=fun e=>by
  obtain ⟨L,f,hr⟩:=b1
  rw [e,hr.hb] at hg1;cases hg1
 refine X8 (m:=us.length) (Inv:=fun m t g9 n9=> ∃(j:Nat),m+j=us.length∧Sub g1 g9∧g9 (n1+1)=some (.cells (coC ⟨n1+1,n1,lb⟩ (JbI id room us)) .exact)∧
  g9 n1=some (.cells (((us.take j).map (fun u=>(⟨false,u⟩:Cd))++List.replicate (us.length-j) (⟨false,0⟩:Cd)).map J4).flatten .exact)∧t 37=v∧t 10=ptr (n1+1) 0∧t 38= .int .i64 (us.length:Nat)∧t 39= .int .i64 (j:Nat)) ?_
  ⟨0,by omega,s3,c3,p3,rfl,rfl,rfl,rfl⟩
 rintro I m t g9 n9 ih ⟨j,hm,s9,c9,p9,t37,t10,t38,t39⟩
 simp only [ZcW,t37,t10,t38,t39]
 refine QdN (Xj (fun hj=> ?_) (fun hj=> ?_))
 ·have hj':j<us.length:=by omega
  obtain ⟨u,hget⟩: ∃u,us[j]? =some u:=⟨_,List.getElem?_eq_getElem hj'⟩
  refine (hv1.mono s9).idx QaQ hget (fun l o' ha=> ?_)
  rw [Zb]
  refine ha.ld (i:=0) rfl ?_
  rw [Ze,Zb]
  refine Qb c9 (show (coC ⟨n1+1,n1,lb⟩ (JbI id room us))[0+10]? =some (.slice (some ⟨n1,0,none⟩) us.length us.length) from rfl) ?_
  refine Jy (by omega) (by omega) ?_
  rw [Zb,Int.toNat_natCast]
  have hlen:((us.take j).map (fun u=>(⟨false,u⟩:Cd))).length=j:=by rw [List.length_map,List.length_take];omega
  have hat:((us.take j).map (fun u=>(⟨false,u⟩:Cd))++List.replicate (us.length-j) (⟨false,0⟩:Cd))[j]? =some ⟨false,0⟩:=by
   rw [List.getElem?_append_right (by omega),hlen,Nat.sub_self,List.getElem?_replicate]
   rw [if_pos (by omega)]
  refine QB p9 rfl (by rw [Xh J4 10 XbE,List.length_append,hlen,List.length_replicate];omega) rfl ?_
  rw [show 0+j*10+3=j*10+3 by omega,ZgX hat]
  rw [Jh,JaL (by omega)]
  refine ih (m-1) _ _ _ (by omega) ⟨j+1,by omega,s9.upd_fresh _ hn1,by rw [Qc _ _ (by omega)];exact c9,?_,t37,t10,t38,rfl⟩
  rw [Xa]
  congr 4
  rw [take_add hget,List.map_append,List.set_append_right _ _ (by omega),hlen,Nat.sub_self,show us.length-j=(us.length-(j+1))+1 by omega,List.replicate_succ]
  simp
 ·simp only [ZcX]
  show Jc K (.tuple #[t 10,.int .i64 0]) g9 n9
  rw [t10]
  refine Ja (Sub.refl _) (hK ⟨n1+1,n1,lb⟩ _ _ (s1.trans s9) ?_ ⟨rfl,hL.fresh (s1.none hg1),hL.fresh (s1.none hn1),hL.fresh fb,by show n1+1≠n1;omega,lbne2,lbne,c9,⟨us.map (fun u=>(⟨false,u⟩:Cd)),(by rw [List.map_map];exact List.map_id us),?_⟩,b1.mono s9⟩)
  ·rintro l (rfl|rfl|rfl)
   ·exact s1.none hg1
   ·exact s1.none hn1
   ·exact fb
  ·have h0:us.length-j=0:=by omega
   have ht:us.take j=us:=List.take_of_length_le (by omega)
   rw [h0,ht,List.replicate_zero,List.append_nil] at p9
   exact p9
end
end Go.Proofs.YtkdfaijmjmnhjaaGreat.Gen
namespace Go.Proofs.YtkdfaijmjmnhjaaGreat.Gen
open Go Go.Proofs.YtkdfaijmjmnhjaaGreat.Abs Go.RowKit
variable {g:G} {n:Nat}
def plainC:Cfg:=⟨2,6,1,1,2,2,2⟩
theorem QcQ:plainC.good:=⟨by decide,by decide,by decide,.inl rfl,by decide,by decide,by decide⟩
theorem Xdr {K:Cont} (hK: ∀g' n',Sub g g'→K (.agg (X5 plainC).toArray) g' n'):AC XW [] g n K:=by
 refine ACalls.fold Xb ?_
 rw [←JbJ]
 simp only [Qa2,Xe]
 intro hn
 have s1:=(Sub.refl g).new hn (some (.cells [.int .i64 0,.int .i64 0,.int .i64 0,.int .i64 0,.int .i64 0,.int .i64 0,.int .i64 0] .exact))
 have x1:upd g n (some (.cells [.int .i64 0,.int .i64 0,.int .i64 0,.int .i64 0,.int .i64 0,.int .i64 0,.int .i64 0] .exact)) n=some (.cells [.int .i64 0,.int .i64 0,.int .i64 0,.int .i64 0,.int .i64 0,.int .i64 0,.int .i64 0] .exact):=Xa _ _ _
 refine ⟨rfl,by decide,rfl,by decide,rfl,by decide,rfl,by decide,rfl,by decide,rfl,by decide,rfl,by decide,rfl,?_⟩
 refine Zw x1 rfl (by decide) (by intro v hv;simp at hv;rcases hv with rfl|rfl|rfl|rfl|rfl|rfl|rfl<;>rfl) ?_
 refine XA (Xa _ _ _) (by decide) ?_
 exact Ja (Sub.refl _) (hK _ _ (s1.upd_fresh _ hn))
def wS0:Sys:=QcE plainC []
def wS1:Sys:=(wS0.store 0 3 1 7).1
def wS2:Sys:=(wS1.up 0).1
def wS3:Sys:=(wS2.hear 0).1
def wS4:Sys:=(wS3.store 0 3 1 7).1
def wS5:Sys:=(wS4.load 1 3 1).1
def wS6:Sys:=(wS5.up 1).1
def wS7:Sys:=(wS6.hear 0).1
def wS8:Sys:=(wS7.answer 0).1
def wS9:Sys:=(wS8.hear 1).1
def wSa:Sys:=(wS9.load 1 3 1).1
theorem e1:(wS0.store 0 3 1 7).2=false:=by kernel_rfl
theorem e2:(wS1.up 0).2=0:=by kernel_rfl
theorem e3:(wS2.hear 0).2.1.kind=10∧(wS2.hear 0).2.2=0:=⟨by kernel_rfl,by kernel_rfl⟩
theorem e4:(wS3.store 0 3 1 7).2=true:=by kernel_rfl
theorem ea:(wS9.load 1 3 1).2.2=true∧(wS9.load 1 3 1).2.1=7:=⟨by kernel_rfl,by kernel_rfl⟩
theorem eb:Zx (wSa.entry 3).share= .int .u8 3:=by kernel_rfl
theorem ec:(wSa.slots 0).length=1:=by kernel_rfl
theorem Xhp {S:Sys} {k:Nat} (h:S.wf k): ∀(i:Nat) N,S.nodes[i]? =some N→ ∀m∈N.up,S.line m.line=true:=fun i N hN m hm=>(h.line _).2 ((h.nd i N hN).up.2 m hm)
theorem JgY {S:Sys} {k:Nat} (h:S.wf k): ∀(i:Nat) N,S.nodes[i]? =some N→ ∀m∈N.ans,S.line m.line=true:=fun i N hN m hm=>(h.line _).2 ((h.nd i N hN).ans.2 m hm)
end Go.Proofs.YtkdfaijmjmnhjaaGreat.Gen
