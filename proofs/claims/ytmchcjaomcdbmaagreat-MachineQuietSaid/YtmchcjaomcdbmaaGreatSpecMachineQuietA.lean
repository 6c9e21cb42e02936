import Derived.ChangeAlike
import Derived.Defers
import Derived.KernelRfl
import Derived.Laws.LoneSync
import Derived.Laws.Pointers
import Derived.LoopIn
import Derived.LoopNIn
import Derived.OwnWalkIn
import Derived.RangeFuncBound
import Derived.RangeFuncCalls
import Derived.RangeFuncLeaves
import Derived.RangeFuncNested
import Derived.RegionCalls
import Derived.RegionTactic
import Derived.Shelf.Abstract
import Derived.Shelf.RegionOpen
import Derived.Tactics
import Derived.Tactics2
import Derived.TacticsInMore
import Derived.WalkKit
import Derived.Test.YtmchcjaomcdbmaaGreatGenMachineQuiet
/- What the functions come to. -/
set_option linter.all false
set_option linter.deprecated false
namespace Go.Proofs.YtmchcjaomcdbmaaGreat.Gen
open Go Go.Proofs.YtmchcjaomcdbmaaGreat.Abs
section
theorem QeO (w:World):(callFunc 350 #[]).run Tryz.prog w= .ok (.value (.tuple #[])) w:=run_call_mark0 Tryz.func350 (by kernel_rfl) (by kernel_rfl) (by kernel_rfl) .disable (by kernel_rfl) w
theorem Qfw (w:World):(callFunc 352 #[]).run Tryz.prog w= .ok (.value (.tuple #[])) w:=run_call_mark0 Tryz.func352 (by kernel_rfl) (by kernel_rfl) (by kernel_rfl) .enable (by kernel_rfl) w
theorem QgA (a:Addr) (w:World):(callFunc 353 #[.pointer (some a)]).run Tryz.prog w= .ok (.value (.tuple #[])) w:=run_call_marked Tryz.func353 (by kernel_rfl) (by kernel_rfl) (by kernel_rfl) .acquire (by kernel_rfl) a w
theorem Jgj (a:Addr) (w:World):(callFunc 355 #[.pointer (some a)]).run Tryz.prog w= .ok (.value (.tuple #[])) w:=run_call_marked Tryz.func355 (by kernel_rfl) (by kernel_rfl) (by kernel_rfl) .releaseMerge (by kernel_rfl) a w
set_option maxRecDepth 100000 in
set_option maxHeartbeats 1600000 in
theorem Xgd (a:Addr) (x:Value) (u:FrameMode) (w:World) (hc:w.cell? a=some x) (O:w.frozen? a=false):
  CallsD Tryz.prog 328 #[.pointer (some a),.bool true] u w λe I w'=>I=u∧(e= .returned (.tuple #[])∧w'=w.drew.setCell a (.int .u32 1)):=by
 have E:w.drew.cell? a=some x:=by go_simp
 have j:w.drew.frozen? a=false:=by go_simp
 have J:=run_call_store (P:=Tryz.prog) Tryz.func340 (by kernel_rfl) (by kernel_rfl) (by kernel_rfl) (by kernel_rfl) (k:= .u32) (y:=1) E j
 go_enter_d Tryz.func328,Tryz.ntmps328
 go_wp2
 go_region_calls
 all_goals (go_end0;exact ⟨rfl,rfl⟩)
set_option maxRecDepth 100000 in
set_option maxHeartbeats 1600000 in
theorem Jfj (a:Addr) (u:FrameMode) (w:World) (hc:w.cell? a=some (.int .i32 1)) (J:w.frozen? a=false):
  CallsD Tryz.prog 327 #[.pointer (some a)] u w λe I w'=>I=u∧(e= .returned (.tuple #[])∧w'=w.setCell a (.int .i32 0)):=by
 have hd:=QeO
 have he:=Qfw
 have O:=Jgj
 have j:=run_call_add (P:=Tryz.prog) Tryz.func356 (by kernel_rfl) (by kernel_rfl) (by kernel_rfl) .i32 (by kernel_rfl) (y:= -1) (s:=0) hc J (by simp [go_sem];rfl)
 have E:=run_convert_to_unsafe (P:=Tryz.prog) (src:=429) (dst:=433) Tryz.underlying429 Tryz.underlying433 (by kernel_rfl) hc
 go_enter_d Tryz.func327,Tryz.ntmps327
 go_wp2
 go_end0
 go_wp2
 go_end0
 exact ⟨rfl,rfl⟩
set_option maxRecDepth 100000 in
set_option maxHeartbeats 1600000 in
theorem Xhj (a:Addr) (w:World) (hc:w.cell? a=some (.int .i32 0)) (J:w.frozen? a=false):
  Calls Tryz.prog 326 #[.pointer (some a)] w λe w'=>e= .returned (.tuple #[])∧w'=w.setCell a (.int .i32 1):=by
 have hd:=QeO
 have he:=Qfw
 have O:=QgA
 have E:=run_call_cas_hit (P:=Tryz.prog) Tryz.func351 (by kernel_rfl) (by kernel_rfl) (by kernel_rfl) .i32 (by kernel_rfl) (y:=1) hc J
 have j:(w.setCell a (.int .i32 1)).cell? a=some (.int .i32 1):=World.cell?_setCell_same w a _ hc
 have I:=run_convert_to_unsafe (P:=Tryz.prog) (src:=429) (dst:=433) Tryz.underlying429 Tryz.underlying433 (by kernel_rfl) j
 go_enter Tryz.func326,Tryz.ntmps326
 go_wp2
 first|go_end0|(simp only [Exit.inBlock,Exit.then];refine bodyPost_ret (results_none rfl _ _ _) rfl ?_)|refine bodyPost_ret (results_none rfl _ _ _) rfl ?_
 go_wp2
 go_end0
 exact ⟨rfl,rfl⟩
set_option maxRecDepth 100000 in
set_option maxHeartbeats 1600000 in
theorem XgL (b off:Nat) (us vs:Array Value) (w:World) (R:Ending→World→Prop)
  (Q:w.cell? ⟨b,off,none⟩=some (.int .u32 0)) (Z:w.cell? ⟨b,off+1,none⟩=some (.int .i32 0)) (f1:w.frozen? ⟨b,off+1,none⟩=false)
  (E:Calls Tryz.prog 306 (us++ #[]++vs) (w.setCell ⟨b,off+1,none⟩ (.int .i32 1)) λe j=>(∃v,e= .returned v)∧(∃x,j.cell? ⟨b,off,none⟩=some x)∧j.frozen? ⟨b,off,none⟩=false∧
   j.cell? ⟨b,off+1,none⟩=some (.int .i32 1)∧j.frozen? ⟨b,off+1,none⟩=false∧R (.returned (.tuple #[])) ((j.drew.setCell ⟨b,off,none⟩ (.int .u32 1)).setCell ⟨b,off+1,none⟩ (.int .i32 0))):
  Calls Tryz.prog 317 #[.pointer (some ⟨b,off,none⟩),.func (.func 306) us vs] w R:=by
 have Y:=run_call_load (P:=Tryz.prog) Tryz.func325 (by kernel_rfl) (by kernel_rfl) (by kernel_rfl) .u32 (by kernel_rfl) (w:=w.setCell ⟨b,off+1,none⟩ (.int .i32 1)) (a:=⟨b,off,none⟩) (x:=0) ((World.cell?_setCell_other _ ⟨b,off+1,none⟩ ⟨b,off,none⟩ _ (by simp)).trans Q)
 have J: ∀(x:Bool) (w:World),(Op.unary .not (.bool x)).run Tryz.prog w= .ok (.bool (!x)) w:=λ_ _=>rfl
 have O:(callFunc 306 (us++ #[]++vs)).run Tryz.prog (w.setCell ⟨b,off+1,none⟩ (.int .i32 1))= .ok (.enter 306 (us++ #[]++vs)) (w.setCell ⟨b,off+1,none⟩ (.int .i32 1)):=Qb7 Tryz.func306 (by kernel_rfl) (by kernel_rfl)
 go_enter_defers Tryz.func317,Tryz.ntmps317
 go_wp2_with (first|(go_at_call 326;refine (Xhj ⟨b,off+1,none⟩ _ (by go_simp) (by go_simp)).mono ?_;rintro e w' ⟨rfl,rfl⟩)|(go_at_call 316;go_in)|(go_at_call 306;refine E.mono ?_;rintro e j ⟨⟨v,rfl⟩,⟨x,c0⟩,z0,c1,z1,V⟩))
 refine leaves_cons (f:=328) (args:= #[.pointer (some ⟨b,off,none⟩),.bool true]) (by simp) (by simp [go_sem]) ?_
 refine (Xgd ⟨b,off,none⟩ x .returning _ c0 z0).mono ?_
 rintro e U I ⟨rfl,rfl,rfl⟩
 refine leaves_cons (f:=327) (args:= #[.pointer (some ⟨b,off+1,none⟩)]) (by simp [settle]) (by simp [go_sem]) ?_
 refine (Jfj ⟨b,off+1,none⟩ _ _ ?_ (by simp [z1])).mono ?_
 ·refine (World.cell?_setCell_other _ ⟨b,off,none⟩ ⟨b,off+1,none⟩ _ (by simp)).trans ?_
  rw [World.cell?_drew]
  exact c1
 rintro e U I ⟨rfl,rfl,rfl⟩
 simp [Leaves,settle,results,Tryz.results317]
 exact V
set_option maxRecDepth 100000 in
set_option maxHeartbeats 1600000 in
theorem Jgt (b off:Nat) (us vs:Array Value) (w:World) (R:Ending→World→Prop)
  (Q:w.cell? ⟨b,off,none⟩=some (.int .u32 0)) (Z:w.cell? ⟨b,off+1,none⟩=some (.int .i32 0)) (f1:w.frozen? ⟨b,off+1,none⟩=false)
  (E:Calls Tryz.prog 342 (us++ #[]++vs) (w.setCell ⟨b,off+1,none⟩ (.int .i32 1)) λe j=>(∃v,e= .returned v)∧(∃x,j.cell? ⟨b,off,none⟩=some x)∧j.frozen? ⟨b,off,none⟩=false∧
   j.cell? ⟨b,off+1,none⟩=some (.int .i32 1)∧j.frozen? ⟨b,off+1,none⟩=false∧R (.returned (.tuple #[])) ((j.drew.setCell ⟨b,off,none⟩ (.int .u32 1)).setCell ⟨b,off+1,none⟩ (.int .i32 0))):
  Calls Tryz.prog 317 #[.pointer (some ⟨b,off,none⟩),.func (.func 342) us vs] w R:=by
 have Y:=run_call_load (P:=Tryz.prog) Tryz.func325 (by kernel_rfl) (by kernel_rfl) (by kernel_rfl) .u32 (by kernel_rfl) (w:=w.setCell ⟨b,off+1,none⟩ (.int .i32 1)) (a:=⟨b,off,none⟩) (x:=0) ((World.cell?_setCell_other _ ⟨b,off+1,none⟩ ⟨b,off,none⟩ _ (by simp)).trans Q)
 have J: ∀(x:Bool) (w:World),(Op.unary .not (.bool x)).run Tryz.prog w= .ok (.bool (!x)) w:=λ_ _=>rfl
 have O:(callFunc 342 (us++ #[]++vs)).run Tryz.prog (w.setCell ⟨b,off+1,none⟩ (.int .i32 1))= .ok (.enter 342 (us++ #[]++vs)) (w.setCell ⟨b,off+1,none⟩ (.int .i32 1)):=Qb7 Tryz.func342 (by kernel_rfl) (by kernel_rfl)
 go_enter_defers Tryz.func317,Tryz.ntmps317
 go_wp2_with (first|(go_at_call 326;refine (Xhj ⟨b,off+1,none⟩ _ (by go_simp) (by go_simp)).mono ?_;rintro e w' ⟨rfl,rfl⟩)|(go_at_call 316;go_in)|(go_at_call 342;refine E.mono ?_;rintro e j ⟨⟨v,rfl⟩,⟨x,c0⟩,z0,c1,z1,V⟩))
 refine leaves_cons (f:=328) (args:= #[.pointer (some ⟨b,off,none⟩),.bool true]) (by simp) (by simp [go_sem]) ?_
 refine (Xgd ⟨b,off,none⟩ x .returning _ c0 z0).mono ?_
 rintro e U I ⟨rfl,rfl,rfl⟩
 refine leaves_cons (f:=327) (args:= #[.pointer (some ⟨b,off+1,none⟩)]) (by simp [settle]) (by simp [go_sem]) ?_
 refine (Jfj ⟨b,off+1,none⟩ _ _ ?_ (by simp [z1])).mono ?_
 ·refine (World.cell?_setCell_other _ ⟨b,off,none⟩ ⟨b,off+1,none⟩ _ (by simp)).trans ?_
  rw [World.cell?_drew]
  exact c1
 rintro e U I ⟨rfl,rfl,rfl⟩
 simp [Leaves,settle,results,Tryz.results317]
 exact V
end
section
open Go.RowKit Go.Shelf
attribute [local go_sem] Oper.semAt_some
def XbC (len k:Nat):List Nat:=(List.range k).map λj=>len-1-j
theorem QcJ (len k:Nat):XbC len (k+1)=XbC len k++[len-1-k]:=by simp [XbC,List.range_succ]
theorem ZfQ (len k:Nat):(XbC len k).length=k:=by simp [XbC]
def Xgt (L:Nat→Int) (E:Nat→Nat→Value) (j:Nat):Value:= .agg #[.int .i64 (L j),E j 0,E j 1,E j 2,E j 3,E j 4,E j 5,E j 6,E j 7]
set_option maxRecDepth 100000 in
set_option maxHeartbeats 2000000 in
theorem Qha (F:Fence) (n:Nat) (h7:F.fn 299) (af:F.round=none) (hn:1≤n) (l Bs n₀ O so len cap:Nat) (a:Option Addr) (L:Nat→Int) (E:Nat→Nat→Value) (ai:len<1099511627776) (ha:0<len→a=some ⟨O,so,none⟩) (hb:0<len→O<n₀) (J Jx:List Nat→World→Prop)
  (hY: ∀V x W,J V W→V.length<len→YieldAt F (n-1) Tryz.prog l #[.int .i64 (x:Nat),Xgt L E x] W λe W'=>
   (e= .returned (.bool true)∧J (V++[x]) W'∧Below n₀ W W')∨(e= .returned (.bool false)∧Jx (V++[x]) W'))
  (W:World) (ab:W.cell? ⟨Bs,0,none⟩=some (.slice a len cap)) (aa:Bs<n₀)
  (hL: ∀j,j<len→W.cell? ⟨O,so+j*9,none⟩=some (.int .i64 (L j))) (Y: ∀j i,j<len→i<8→W.cell? ⟨O,so+j*9+1+i,none⟩=some (E j i)) (h0:J [] W):
  CallsIn F n Tryz.prog 299 #[.func (.yield l) #[] #[],.pointer (some ⟨Bs,0,none⟩)] W λe W'=>(∃v,e= .returned v)∧
   ((∃ys,ys=XbC len len∧J ys W')∨(∃V,(∃k,k≤len∧V=XbC len k)∧Jx V W')):=by
 refine callsIn_of_wp Tryz.func299 rfl h7 ?_ af
 simp only [Tryz.ntmps299,List.size_toArray,List.length_cons,List.length_nil,Nat.reduceAdd,Nat.reduceSub,Array.replicate_succ,Array.replicate_zero,List.push_toArray,List.append_toArray,List.nil_append,List.cons_append]
 gi_wp2
 gi_loopw [3] (λi wr=> ∃k:Nat,k≤len∧i= .int .i64 ((len:Int)-1-k)∧J (XbC len k) wr∧Below n₀ W wr)
  (λi _=>(intOf i+1).toNat)
 case atStart=>exact ⟨0,Nat.zero_le _,by simp,h0,Below.refl _ _⟩
 case round=>
  obtain ⟨k,hk,rfl,ad,I⟩:=hrel
  by_cases hlt:k<len
  ·have ac:=(I.cell (p:=⟨Bs,0,none⟩) aa).trans ab
   obtain ⟨j,hj⟩: ∃j:Nat,(len:Int)-1-k=j:=⟨len-1-k,by omega⟩
   have U:j<len:=by omega
   obtain rfl:=ha (by omega)
   have Q:=hb (by omega)
   rw [hj]
   obtain ⟨fn,aj,assign,body,hy,hR⟩:=hY _ j wr ad (by rw [ZfQ];exact hlt)
   have e0:wr.cell? ⟨O,so+j*9,none⟩=some (.int .i64 (L j)):=(I.cell (p:=⟨O,so+j*9,none⟩) Q).trans (hL j U)
   have e1:wr.cell? ⟨O,so+j*9+1,none⟩=some (E j 0):=(I.cell (p:=⟨O,so+j*9+1,none⟩) Q).trans (by have:=Y j 0 U (by decide);simpa [Nat.add_assoc] using this)
   have e2:wr.cell? ⟨O,so+j*9+2,none⟩=some (E j 1):=(I.cell (p:=⟨O,so+j*9+2,none⟩) Q).trans (by have:=Y j 1 U (by decide);simpa [Nat.add_assoc] using this)
   have e3:wr.cell? ⟨O,so+j*9+3,none⟩=some (E j 2):=(I.cell (p:=⟨O,so+j*9+3,none⟩) Q).trans (by have:=Y j 2 U (by decide);simpa [Nat.add_assoc] using this)
   have e4:wr.cell? ⟨O,so+j*9+4,none⟩=some (E j 3):=(I.cell (p:=⟨O,so+j*9+4,none⟩) Q).trans (by have:=Y j 3 U (by decide);simpa [Nat.add_assoc] using this)
   have e5:wr.cell? ⟨O,so+j*9+5,none⟩=some (E j 4):=(I.cell (p:=⟨O,so+j*9+5,none⟩) Q).trans (by have:=Y j 4 U (by decide);simpa [Nat.add_assoc] using this)
   have e6:wr.cell? ⟨O,so+j*9+6,none⟩=some (E j 5):=(I.cell (p:=⟨O,so+j*9+6,none⟩) Q).trans (by have:=Y j 5 U (by decide);simpa [Nat.add_assoc] using this)
   have e7:wr.cell? ⟨O,so+j*9+7,none⟩=some (E j 6):=(I.cell (p:=⟨O,so+j*9+7,none⟩) Q).trans (by have:=Y j 6 U (by decide);simpa [Nat.add_assoc] using this)
   have e8:wr.cell? ⟨O,so+j*9+8,none⟩=some (E j 7):=(I.cell (p:=⟨O,so+j*9+8,none⟩) Q).trans (by have:=Y j 7 U (by decide);simpa [Nat.add_assoc] using this)
   simp only [Xgt] at hy
   gi_wp2
   refine hR.mono ?_
   rintro e W3 (⟨rfl,ae,ah⟩|⟨rfl,Z⟩)
   ·gi_wp2
    go_roundw
    case rel=>exact ⟨k+1,by omega,by simp;omega,by rw [QcJ,show len-1-k=j by omega];exact ae,I.trans ah⟩
    case measure=>simp [intOf]
   ·gi_wp2
    refine bodyPost_ret (results_none rfl _ _ _) rfl ?_
    exact ⟨⟨_,rfl⟩,.inr ⟨_,⟨k+1,by omega,by rw [QcJ,show len-1-k=j by omega]⟩,Z⟩⟩
  ·obtain rfl:k=len:=by omega
   have ac:=(I.cell (p:=⟨Bs,0,none⟩) aa).trans ab
   gi_wp2
   go_end0
   exact ⟨⟨_,rfl⟩,.inl ⟨_,rfl,ad⟩⟩
set_option maxHeartbeats 1000000 in
theorem XhD (F:Fence) (n:Nat) (E:F.fn 272) (j:F.round=none) (a:Option Addr) (len cap:Nat) (w:World):
  CallsIn F n Tryz.prog 272 #[.slice a len cap] w λe w'=>e= .returned (.func (.func 299) #[] #[.pointer (some ⟨w.heap.size,0,none⟩)])∧w'=w.alloc (.cells #[.slice a len cap] 226):=by
 refine callsIn_of_wp Tryz.func272 rfl E ?_ j
 simp only [Tryz.ntmps272,List.size_toArray,List.length_cons,List.length_nil,Nat.reduceAdd,Nat.reduceSub,Array.replicate_succ,Array.replicate_zero,List.push_toArray,List.append_toArray,List.nil_append,List.cons_append]
 gi_wp2
 go_ret
 exact ⟨rfl,rfl⟩
theorem QfL (F:Fence) (n:Nat) (h7:F.fn 299) (V:F.round=none) (hn:1≤n) (Bs n₀ I so len cap:Nat) (a:Option Addr) (L:Nat→Int) (E:Nat→Nat→Value) (O:len<1099511627776) (ha:0<len→a=some ⟨I,so,none⟩) (hb:0<len→I<n₀)
  (w:World) (Z:Bs<w.heap.size) (Y:Bs<n₀) (hn₀:n₀≤w.heap.size) (hc:w.cell? ⟨Bs,0,none⟩=some (.slice a len cap))
  (hL: ∀j,j<len→w.cell? ⟨I,so+j*9,none⟩=some (.int .i64 (L j))) (hE: ∀j i,j<len→i<8→w.cell? ⟨I,so+j*9+1+i,none⟩=some (E j i)):
  SeqStopsK F n Tryz.prog 299 #[.pointer (some ⟨Bs,0,none⟩)] (λx:Nat=> #[.int .i64 (x:Nat),Xgt L E x]) (Below n₀) (λys=>ys=XbC len len) (λaa=> ∃k,k≤len∧aa=XbC len k) len w:=
 λl J Jx W hW _ _ hY h0=>by
  have ab:=(hW.cell (p:=⟨Bs,0,none⟩) Z).trans hc
  have Q:=hW.mono hn₀
  exact Qha F n h7 V hn l Bs n₀ I so len cap a L E O ha hb J Jx hY W ab Y
   (λj U=>(Q.cell (p:=⟨I,so+j*9,none⟩) (hb (by omega))).trans (hL j U))
   (λj i U hi=>(Q.cell (p:=⟨I,so+j*9+1+i,none⟩) (hb (by omega))).trans (hE j i U hi)) h0
end
section
open Go.RowKit Go.Shelf
attribute [local go_sem] Oper.semAt_some
set_option maxHeartbeats 1000000 in
theorem Jhz (F:Fence) (n:Nat) (J:F.fn 280) (E:F.round=none) (I j m c:Nat) (a:Option Addr) (x:Int) (w:World) (U:w.cell? ⟨I,j,none⟩=some (.slice a m c)) (O:0≤x) (Q:x<m):
  CallsIn F n Tryz.prog 280 #[.pointer (some ⟨I,j,none⟩),.int .i64 x] w λe w'=>e= .returned (.int .i64 0)∧w'=w:=by
 refine callsIn_of_wp Tryz.func280 rfl J ?_ E
 simp only [Tryz.ntmps280,List.size_toArray,List.length_cons,List.length_nil,Nat.reduceAdd,Nat.reduceSub,Array.replicate_succ,Array.replicate_zero,List.push_toArray,List.append_toArray,List.nil_append,List.cons_append]
 gi_wp2
 all_goals first
  |(go_ret;exact ⟨rfl,rfl⟩)
  |(exfalso;omega)
theorem w64 (x:Int):IntKind.wrap .i64 x=Go.RowKit.wrap64 x:=by unfold Go.RowKit.wrap64;exact IntKind.wrap_i64 x
theorem Jl {w:World} {p:Addr} {v:Value} {o:Obj} (h:w.cell? p=some v):(w.alloc o).cell? p=some v:=by
 obtain ⟨o',j,_⟩:=cells_of_cell h
 exact (World.cell?_of_block (Below.heap_alloc w o p.block (Array.getElem?_eq_some_iff.1 j).1)).trans h
theorem XV {w:World} {p:Addr} {v:Value} {o:Obj} (h:w.cell? p=some v):(w.alloc o).frozen? p=w.frozen? p:=by
 obtain ⟨o',j,_⟩:=cells_of_cell h
 exact World.frozen?_of_block (Below.heap_alloc w o p.block (Array.getElem?_eq_some_iff.1 j).1)
theorem Za (w:World) (b o j o':Nat) (v u:Value) (h:w.cell? ⟨j,o',none⟩=some u) (E:j≠b∨o'≠o):(w.setCell ⟨b,o,none⟩ v).cell? ⟨j,o',none⟩=some u:=by
 rw [World.cell?_setCell_other _ _ _ _ (by simp;omega)];exact h
set_option maxHeartbeats 1000000 in
theorem Qg2 (F:Fence) (n:Nat) (I:F.fn 131) (O:F.fn 211) (j:F.round=none) (b off:Nat) (r:Int) (w:World) (hc:w.cell? ⟨b,off,none⟩=some (.int .i64 r)) (J:w.frozen? ⟨b,off,none⟩=false):
  CallsIn F n Tryz.prog 131 #[.pointer (some ⟨b,off,none⟩),.int .i64 1] w λe w'=>e= .returned (.int .i64 (wrap64 (r+1)))∧w'=w.setCell ⟨b,off,none⟩ (.int .i64 (wrap64 (r+1))):=by
 have E:=run_call_add (P:=Tryz.prog) Tryz.func211 (by kernel_rfl) (by kernel_rfl) (by kernel_rfl) .i64 (by kernel_rfl) (y:=1) (s:=wrap64 (r+1)) hc J (by simp [go_sem,w64])
 refine callsIn_of_wp Tryz.func131 rfl I ?_ j
 simp only [Tryz.ntmps131,List.size_toArray,List.length_cons,List.length_nil,Nat.reduceAdd,Nat.reduceSub,Array.replicate_succ,Array.replicate_zero,List.push_toArray,List.append_toArray,List.nil_append,List.cons_append]
 gi_wp2
 go_ret
 exact ⟨rfl,rfl⟩
structure DevW (w:World) (db dof lb lo m c k:Nat) (r:Int) (W:Nat→Value):Prop where
 q0:w.cell? ⟨db,dof,none⟩=some (.slice (some ⟨lb,lo,none⟩) m c)
 l0:w.cell? ⟨lb,lo+k*8,none⟩=some (W 0)
 l1:w.cell? ⟨lb,lo+k*8+1,none⟩=some (W 1)
 l2:w.cell? ⟨lb,lo+k*8+2,none⟩=some (W 2)
 l3:w.cell? ⟨lb,lo+k*8+3,none⟩=some (W 3)
 l4:w.cell? ⟨lb,lo+k*8+4,none⟩=some (W 4)
 l5:w.cell? ⟨lb,lo+k*8+5,none⟩=some (W 5)
 l6:w.cell? ⟨lb,lo+k*8+6,none⟩=some (W 6)
 l7:w.cell? ⟨lb,lo+k*8+7,none⟩=some (W 7)
theorem DevW.alloc {w:World} {I j lb E m c k:Nat} {r:Int} {W:Nat→Value} {o:Obj} (h:DevW w I j lb E m c k r W):DevW (w.alloc o) I j lb E m c k r W:=
 ⟨Jl h.q0,Jl h.l0,Jl h.l1,Jl h.l2,Jl h.l3,Jl h.l4,Jl h.l5,Jl h.l6,Jl h.l7⟩
theorem DevW.set {w:World} {I E lb J m c k:Nat} {r:Int} {W:Nat→Value} {v:Value} (h:DevW w I E lb J m c k r W) (j:lb≠I):DevW (w.setCell ⟨I,E+2,none⟩ v) I E lb J m c k r W:=
 ⟨Za _ _ _ _ _ _ _ h.q0 (.inr (by omega)),Za _ _ _ _ _ _ _ h.l0 (.inl j),Za _ _ _ _ _ _ _ h.l1 (.inl j),Za _ _ _ _ _ _ _ h.l2 (.inl j),Za _ _ _ _ _ _ _ h.l3 (.inl j),Za _ _ _ _ _ _ _ h.l4 (.inl j),Za _ _ _ _ _ _ _ h.l5 (.inl j),Za _ _ _ _ _ _ _ h.l6 (.inl j),Za _ _ _ _ _ _ _ h.l7 (.inl j)⟩
structure NewL (w:World) (b:Nat):Prop where
 z0:w.cell? ⟨b,0,none⟩=some (.int .u64 0)
 z1:w.cell? ⟨b,1,none⟩=some (.int .u64 0)
 z2:w.cell? ⟨b,2,none⟩=some (.int .u64 0)
 z3:w.cell? ⟨b,3,none⟩=some (.int .u64 0)
 z4:w.cell? ⟨b,4,none⟩=some (.int .u64 0)
 z5:w.cell? ⟨b,5,none⟩=some (.int .u64 0)
 z6:w.cell? ⟨b,6,none⟩=some (.int .u64 0)
 z7:w.cell? ⟨b,7,none⟩=some (.int .u64 0)
 f0:w.frozen? ⟨b,0,none⟩=false
 f1:w.frozen? ⟨b,1,none⟩=false
 f2:w.frozen? ⟨b,2,none⟩=false
 f3:w.frozen? ⟨b,3,none⟩=false
 f4:w.frozen? ⟨b,4,none⟩=false
 f5:w.frozen? ⟨b,5,none⟩=false
 f6:w.frozen? ⟨b,6,none⟩=false
 f7:w.frozen? ⟨b,7,none⟩=false
theorem NewL.new (w:World) (t:TypeId):NewL (w.alloc (.cells #[.int .u64 0,.int .u64 0,.int .u64 0,.int .u64 0,.int .u64 0,.int .u64 0,.int .u64 0,.int .u64 0] t)) w.heap.size:=by
 constructor<;>(first|unfold World.cell? |unfold World.frozen?)<;>simp only [World.alloc_heap_new]<;>rfl
theorem NewL.set {w:World} {b p o:Nat} {v:Value} (h:NewL w b) (j:b≠p):NewL (w.setCell ⟨p,o,none⟩ v) b:=
 ⟨Za _ _ _ _ _ _ _ h.z0 (.inl j),Za _ _ _ _ _ _ _ h.z1 (.inl j),Za _ _ _ _ _ _ _ h.z2 (.inl j),Za _ _ _ _ _ _ _ h.z3 (.inl j),Za _ _ _ _ _ _ _ h.z4 (.inl j),Za _ _ _ _ _ _ _ h.z5 (.inl j),Za _ _ _ _ _ _ _ h.z6 (.inl j),Za _ _ _ _ _ _ _ h.z7 (.inl j),(World.frozen?_setCell _ _ _ _).trans h.f0,(World.frozen?_setCell _ _ _ _).trans h.f1,(World.frozen?_setCell _ _ _ _).trans h.f2,(World.frozen?_setCell _ _ _ _).trans h.f3,(World.frozen?_setCell _ _ _ _).trans h.f4,(World.frozen?_setCell _ _ _ _).trans h.f5,(World.frozen?_setCell _ _ _ _).trans h.f6,(World.frozen?_setCell _ _ _ _).trans h.f7⟩
def JdT (w:World) (b:Nat) (W:Nat→Value):World:=((((((((w.setCell ⟨b,0,none⟩ (W 0)).setCell ⟨b,1,none⟩ (W 1)).setCell ⟨b,2,none⟩ (W 2)).setCell ⟨b,3,none⟩ (W 3)).setCell ⟨b,4,none⟩ (W 4)).setCell ⟨b,5,none⟩ (W 5)).setCell ⟨b,6,none⟩ (W 6)).setCell ⟨b,7,none⟩ (W 7))
theorem Xhl {P:Program} {w:World} {b:Nat} {W:Nat→Value} (h:NewL w b) (hc: ∀i,i<8→isCell (W i)=true):
  (((store ⟨b,0,none⟩ (W 0)).run P w).andThen λa w'=>((store ⟨b,1,none⟩ (W 1)).run P w').andThen λa w'=>((store ⟨b,2,none⟩ (W 2)).run P w').andThen λa w'=>((store ⟨b,3,none⟩ (W 3)).run P w').andThen λa w'=>((store ⟨b,4,none⟩ (W 4)).run P w').andThen λa w'=>((store ⟨b,5,none⟩ (W 5)).run P w').andThen λa w'=>((store ⟨b,6,none⟩ (W 6)).run P w').andThen λa w'=>(store ⟨b,7,none⟩ (W 7)).run P w')= .ok () (JdT w b W):=by
 rw [Qp (P:=P) h.z0 h.f0 (hc 0 (by decide))]
 simp only [Result.andThen]
 rw [Qp (P:=P) (Za _ _ _ _ _ _ _ h.z1 (.inr (by decide))) ((World.frozen?_setCell _ _ _ _).trans h.f1) (hc 1 (by decide))]
 simp only [Result.andThen]
 rw [Qp (P:=P) (Za _ _ _ _ _ _ _ (Za _ _ _ _ _ _ _ h.z2 (.inr (by decide))) (.inr (by decide))) ((World.frozen?_setCell _ _ _ _).trans ((World.frozen?_setCell _ _ _ _).trans h.f2)) (hc 2 (by decide))]
 simp only [Result.andThen]
 rw [Qp (P:=P) (Za _ _ _ _ _ _ _ (Za _ _ _ _ _ _ _ (Za _ _ _ _ _ _ _ h.z3 (.inr (by decide))) (.inr (by decide))) (.inr (by decide))) ((World.frozen?_setCell _ _ _ _).trans ((World.frozen?_setCell _ _ _ _).trans ((World.frozen?_setCell _ _ _ _).trans h.f3))) (hc 3 (by decide))]
 simp only [Result.andThen]
 rw [Qp (P:=P) (Za _ _ _ _ _ _ _ (Za _ _ _ _ _ _ _ (Za _ _ _ _ _ _ _ (Za _ _ _ _ _ _ _ h.z4 (.inr (by decide))) (.inr (by decide))) (.inr (by decide))) (.inr (by decide))) ((World.frozen?_setCell _ _ _ _).trans ((World.frozen?_setCell _ _ _ _).trans ((World.frozen?_setCell _ _ _ _).trans ((World.frozen?_setCell _ _ _ _).trans h.f4)))) (hc 4 (by decide))]
 simp only [Result.andThen]
 rw [Qp (P:=P) (Za _ _ _ _ _ _ _ (Za _ _ _ _ _ _ _ (Za _ _ _ _ _ _ _ (Za _ _ _ _ _ _ _ (Za _ _ _ _ _ _ _ h.z5 (.inr (by decide))) (.inr (by decide))) (.inr (by decide))) (.inr (by decide))) (.inr (by decide))) ((World.frozen?_setCell _ _ _ _).trans ((World.frozen?_setCell _ _ _ _).trans ((World.frozen?_setCell _ _ _ _).trans ((World.frozen?_setCell _ _ _ _).trans ((World.frozen?_setCell _ _ _ _).trans h.f5))))) (hc 5 (by decide))]
 simp only [Result.andThen]
 rw [Qp (P:=P) (Za _ _ _ _ _ _ _ (Za _ _ _ _ _ _ _ (Za _ _ _ _ _ _ _ (Za _ _ _ _ _ _ _ (Za _ _ _ _ _ _ _ (Za _ _ _ _ _ _ _ h.z6 (.inr (by decide))) (.inr (by decide))) (.inr (by decide))) (.inr (by decide))) (.inr (by decide))) (.inr (by decide))) ((World.frozen?_setCell _ _ _ _).trans ((World.frozen?_setCell _ _ _ _).trans ((World.frozen?_setCell _ _ _ _).trans ((World.frozen?_setCell _ _ _ _).trans ((World.frozen?_setCell _ _ _ _).trans ((World.frozen?_setCell _ _ _ _).trans h.f6)))))) (hc 6 (by decide))]
 simp only [Result.andThen]
 rw [Qp (P:=P) (Za _ _ _ _ _ _ _ (Za _ _ _ _ _ _ _ (Za _ _ _ _ _ _ _ (Za _ _ _ _ _ _ _ (Za _ _ _ _ _ _ _ (Za _ _ _ _ _ _ _ (Za _ _ _ _ _ _ _ h.z7 (.inr (by decide))) (.inr (by decide))) (.inr (by decide))) (.inr (by decide))) (.inr (by decide))) (.inr (by decide))) (.inr (by decide))) ((World.frozen?_setCell _ _ _ _).trans ((World.frozen?_setCell _ _ _ _).trans ((World.frozen?_setCell _ _ _ _).trans ((World.frozen?_setCell _ _ _ _).trans ((World.frozen?_setCell _ _ _ _).trans ((World.frozen?_setCell _ _ _ _).trans ((World.frozen?_setCell _ _ _ _).trans h.f7))))))) (hc 7 (by decide))]
 rfl
theorem Qdw {w:World} {b:Nat} {W:Nat→Value} (h:NewL w b): ∀i,i<8→(JdT w b W).cell? ⟨b,i,none⟩=some (W i):=by
 intro i j
 match i,j with
 | 0,_=>exact (Za _ _ _ _ _ _ _ (Za _ _ _ _ _ _ _ (Za _ _ _ _ _ _ _ (Za _ _ _ _ _ _ _ (Za _ _ _ _ _ _ _ (Za _ _ _ _ _ _ _ (Za _ _ _ _ _ _ _ (World.cell?_setCell_same' _ _ _ (by rw [h.z0];rfl)) (.inr (by decide))) (.inr (by decide))) (.inr (by decide))) (.inr (by decide))) (.inr (by decide))) (.inr (by decide))) (.inr (by decide)))
 | 1,_=>exact (Za _ _ _ _ _ _ _ (Za _ _ _ _ _ _ _ (Za _ _ _ _ _ _ _ (Za _ _ _ _ _ _ _ (Za _ _ _ _ _ _ _ (Za _ _ _ _ _ _ _ (World.cell?_setCell_same' _ _ _ (by rw [(Za _ _ _ _ _ _ _ h.z1 (.inr (by decide)))];rfl)) (.inr (by decide))) (.inr (by decide))) (.inr (by decide))) (.inr (by decide))) (.inr (by decide))) (.inr (by decide)))
 | 2,_=>exact (Za _ _ _ _ _ _ _ (Za _ _ _ _ _ _ _ (Za _ _ _ _ _ _ _ (Za _ _ _ _ _ _ _ (Za _ _ _ _ _ _ _ (World.cell?_setCell_same' _ _ _ (by rw [(Za _ _ _ _ _ _ _ (Za _ _ _ _ _ _ _ h.z2 (.inr (by decide))) (.inr (by decide)))];rfl)) (.inr (by decide))) (.inr (by decide))) (.inr (by decide))) (.inr (by decide))) (.inr (by decide)))
 | 3,_=>exact (Za _ _ _ _ _ _ _ (Za _ _ _ _ _ _ _ (Za _ _ _ _ _ _ _ (Za _ _ _ _ _ _ _ (World.cell?_setCell_same' _ _ _ (by rw [(Za _ _ _ _ _ _ _ (Za _ _ _ _ _ _ _ (Za _ _ _ _ _ _ _ h.z3 (.inr (by decide))) (.inr (by decide))) (.inr (by decide)))];rfl)) (.inr (by decide))) (.inr (by decide))) (.inr (by decide))) (.inr (by decide)))
 | 4,_=>exact (Za _ _ _ _ _ _ _ (Za _ _ _ _ _ _ _ (Za _ _ _ _ _ _ _ (World.cell?_setCell_same' _ _ _ (by rw [(Za _ _ _ _ _ _ _ (Za _ _ _ _ _ _ _ (Za _ _ _ _ _ _ _ (Za _ _ _ _ _ _ _ h.z4 (.inr (by decide))) (.inr (by decide))) (.inr (by decide))) (.inr (by decide)))];rfl)) (.inr (by decide))) (.inr (by decide))) (.inr (by decide)))
 | 5,_=>exact (Za _ _ _ _ _ _ _ (Za _ _ _ _ _ _ _ (World.cell?_setCell_same' _ _ _ (by rw [(Za _ _ _ _ _ _ _ (Za _ _ _ _ _ _ _ (Za _ _ _ _ _ _ _ (Za _ _ _ _ _ _ _ (Za _ _ _ _ _ _ _ h.z5 (.inr (by decide))) (.inr (by decide))) (.inr (by decide))) (.inr (by decide))) (.inr (by decide)))];rfl)) (.inr (by decide))) (.inr (by decide)))
 | 6,_=>exact (Za _ _ _ _ _ _ _ (World.cell?_setCell_same' _ _ _ (by rw [(Za _ _ _ _ _ _ _ (Za _ _ _ _ _ _ _ (Za _ _ _ _ _ _ _ (Za _ _ _ _ _ _ _ (Za _ _ _ _ _ _ _ (Za _ _ _ _ _ _ _ h.z6 (.inr (by decide))) (.inr (by decide))) (.inr (by decide))) (.inr (by decide))) (.inr (by decide))) (.inr (by decide)))];rfl)) (.inr (by decide)))
 | 7,_=>exact (World.cell?_setCell_same' _ _ _ (by rw [(Za _ _ _ _ _ _ _ (Za _ _ _ _ _ _ _ (Za _ _ _ _ _ _ _ (Za _ _ _ _ _ _ _ (Za _ _ _ _ _ _ _ (Za _ _ _ _ _ _ _ (Za _ _ _ _ _ _ _ h.z7 (.inr (by decide))) (.inr (by decide))) (.inr (by decide))) (.inr (by decide))) (.inr (by decide))) (.inr (by decide))) (.inr (by decide)))];rfl))
theorem Zd4 {w:World} {b p o:Nat} {W:Nat→Value} {v:Value} (h:w.cell? ⟨p,o,none⟩=some v) (j:p≠b):(JdT w b W).cell? ⟨p,o,none⟩=some v:=
 (Za _ _ _ _ _ _ _ (Za _ _ _ _ _ _ _ (Za _ _ _ _ _ _ _ (Za _ _ _ _ _ _ _ (Za _ _ _ _ _ _ _ (Za _ _ _ _ _ _ _ (Za _ _ _ _ _ _ _ (Za _ _ _ _ _ _ _ h (by omega)) (by omega)) (by omega)) (by omega)) (by omega)) (by omega)) (by omega)) (by omega))
theorem put8_frozen {w:World} {b:Nat} {W:Nat→Value} {a:Addr}:(JdT w b W).frozen? a=w.frozen? a:=by
 simp only [JdT,World.frozen?_setCell]
theorem Xc6 {w:World} {b:Nat} {W:Nat→Value} {n:Nat} (hb:n≤b):Below n w (JdT w b W):=(((((((((Below.refl n w).setCell (p:=⟨b,0,none⟩) hb (W 0)).setCell (p:=⟨b,1,none⟩) hb (W 1)).setCell (p:=⟨b,2,none⟩) hb (W 2)).setCell (p:=⟨b,3,none⟩) hb (W 3)).setCell (p:=⟨b,4,none⟩) hb (W 4)).setCell (p:=⟨b,5,none⟩) hb (W 5)).setCell (p:=⟨b,6,none⟩) hb (W 6)).setCell (p:=⟨b,7,none⟩) hb (W 7))
theorem Zd7 (w:World) (b:Nat) (W:Nat→Value):KeepsOthers w (JdT w b W):=((((((((KeepsOthers.setCell w ⟨b,0,none⟩ (W 0)).trans (KeepsOthers.setCell _ ⟨b,1,none⟩ (W 1))).trans (KeepsOthers.setCell _ ⟨b,2,none⟩ (W 2))).trans (KeepsOthers.setCell _ ⟨b,3,none⟩ (W 3))).trans (KeepsOthers.setCell _ ⟨b,4,none⟩ (W 4))).trans (KeepsOthers.setCell _ ⟨b,5,none⟩ (W 5))).trans (KeepsOthers.setCell _ ⟨b,6,none⟩ (W 6))).trans (KeepsOthers.setCell _ ⟨b,7,none⟩ (W 7)))
structure NewE (w:World) (b:Nat):Prop where
 z0:w.cell? ⟨b,1,none⟩=some (.int .u64 0)
 z1:w.cell? ⟨b,2,none⟩=some (.int .u64 0)
 z2:w.cell? ⟨b,3,none⟩=some (.int .u64 0)
 z3:w.cell? ⟨b,4,none⟩=some (.int .u64 0)
 z4:w.cell? ⟨b,5,none⟩=some (.int .u64 0)
 z5:w.cell? ⟨b,6,none⟩=some (.int .u64 0)
 z6:w.cell? ⟨b,7,none⟩=some (.int .u64 0)
 z7:w.cell? ⟨b,8,none⟩=some (.int .u64 0)
 f0:w.frozen? ⟨b,1,none⟩=false
 f1:w.frozen? ⟨b,2,none⟩=false
 f2:w.frozen? ⟨b,3,none⟩=false
 f3:w.frozen? ⟨b,4,none⟩=false
 f4:w.frozen? ⟨b,5,none⟩=false
 f5:w.frozen? ⟨b,6,none⟩=false
 f6:w.frozen? ⟨b,7,none⟩=false
 f7:w.frozen? ⟨b,8,none⟩=false
theorem NewE.new (w:World) (v:Int) (t:TypeId):NewE (w.alloc (.cells #[.int .i64 v,.int .u64 0,.int .u64 0,.int .u64 0,.int .u64 0,.int .u64 0,.int .u64 0,.int .u64 0,.int .u64 0] t)) w.heap.size:=by
 constructor<;>(first|unfold World.cell? |unfold World.frozen?)<;>simp only [World.alloc_heap_new]<;>rfl
theorem NewE.set {w:World} {b p o:Nat} {v:Value} (h:NewE w b) (j:b≠p):NewE (w.setCell ⟨p,o,none⟩ v) b:=
 ⟨Za _ _ _ _ _ _ _ h.z0 (.inl j),Za _ _ _ _ _ _ _ h.z1 (.inl j),Za _ _ _ _ _ _ _ h.z2 (.inl j),Za _ _ _ _ _ _ _ h.z3 (.inl j),Za _ _ _ _ _ _ _ h.z4 (.inl j),Za _ _ _ _ _ _ _ h.z5 (.inl j),Za _ _ _ _ _ _ _ h.z6 (.inl j),Za _ _ _ _ _ _ _ h.z7 (.inl j),(World.frozen?_setCell _ _ _ _).trans h.f0,(World.frozen?_setCell _ _ _ _).trans h.f1,(World.frozen?_setCell _ _ _ _).trans h.f2,(World.frozen?_setCell _ _ _ _).trans h.f3,(World.frozen?_setCell _ _ _ _).trans h.f4,(World.frozen?_setCell _ _ _ _).trans h.f5,(World.frozen?_setCell _ _ _ _).trans h.f6,(World.frozen?_setCell _ _ _ _).trans h.f7⟩
def putE (w:World) (b:Nat) (W:Nat→Value):World:=((((((((w.setCell ⟨b,1,none⟩ (W 0)).setCell ⟨b,2,none⟩ (W 1)).setCell ⟨b,3,none⟩ (W 2)).setCell ⟨b,4,none⟩ (W 3)).setCell ⟨b,5,none⟩ (W 4)).setCell ⟨b,6,none⟩ (W 5)).setCell ⟨b,7,none⟩ (W 6)).setCell ⟨b,8,none⟩ (W 7))
theorem JhV {P:Program} {w:World} {b:Nat} {W:Nat→Value} (h:NewE w b) (hc: ∀i,i<8→isCell (W i)=true):
  (((store ⟨b,1,none⟩ (W 0)).run P w).andThen λa w'=>((store ⟨b,2,none⟩ (W 1)).run P w').andThen λa w'=>((store ⟨b,3,none⟩ (W 2)).run P w').andThen λa w'=>((store ⟨b,4,none⟩ (W 3)).run P w').andThen λa w'=>((store ⟨b,5,none⟩ (W 4)).run P w').andThen λa w'=>((store ⟨b,6,none⟩ (W 5)).run P w').andThen λa w'=>((store ⟨b,7,none⟩ (W 6)).run P w').andThen λa w'=>(store ⟨b,8,none⟩ (W 7)).run P w')= .ok () (putE w b W):=by
 rw [Qp (P:=P) h.z0 h.f0 (hc 0 (by decide))]
 simp only [Result.andThen]
 rw [Qp (P:=P) (Za _ _ _ _ _ _ _ h.z1 (.inr (by decide))) ((World.frozen?_setCell _ _ _ _).trans h.f1) (hc 1 (by decide))]
 simp only [Result.andThen]
 rw [Qp (P:=P) (Za _ _ _ _ _ _ _ (Za _ _ _ _ _ _ _ h.z2 (.inr (by decide))) (.inr (by decide))) ((World.frozen?_setCell _ _ _ _).trans ((World.frozen?_setCell _ _ _ _).trans h.f2)) (hc 2 (by decide))]
 simp only [Result.andThen]
 rw [Qp (P:=P) (Za _ _ _ _ _ _ _ (Za _ _ _ _ _ _ _ (Za _ _ _ _ _ _ _ h.z3 (.inr (by decide))) (.inr (by decide))) (.inr (by decide))) ((World.frozen?_setCell _ _ _ _).trans ((World.frozen?_setCell _ _ _ _).trans ((World.frozen?_setCell _ _ _ _).trans h.f3))) (hc 3 (by decide))]
 simp only [Result.andThen]
 rw [Qp (P:=P) (Za _ _ _ _ _ _ _ (Za _ _ _ _ _ _ _ (Za _ _ _ _ _ _ _ (Za _ _ _ _ _ _ _ h.z4 (.inr (by decide))) (.inr (by decide))) (.inr (by decide))) (.inr (by decide))) ((World.frozen?_setCell _ _ _ _).trans ((World.frozen?_setCell _ _ _ _).trans ((World.frozen?_setCell _ _ _ _).trans ((World.frozen?_setCell _ _ _ _).trans h.f4)))) (hc 4 (by decide))]
 simp only [Result.andThen]
 rw [Qp (P:=P) (Za _ _ _ _ _ _ _ (Za _ _ _ _ _ _ _ (Za _ _ _ _ _ _ _ (Za _ _ _ _ _ _ _ (Za _ _ _ _ _ _ _ h.z5 (.inr (by decide))) (.inr (by decide))) (.inr (by decide))) (.inr (by decide))) (.inr (by decide))) ((World.frozen?_setCell _ _ _ _).trans ((World.frozen?_setCell _ _ _ _).trans ((World.frozen?_setCell _ _ _ _).trans ((World.frozen?_setCell _ _ _ _).trans ((World.frozen?_setCell _ _ _ _).trans h.f5))))) (hc 5 (by decide))]
 simp only [Result.andThen]
 rw [Qp (P:=P) (Za _ _ _ _ _ _ _ (Za _ _ _ _ _ _ _ (Za _ _ _ _ _ _ _ (Za _ _ _ _ _ _ _ (Za _ _ _ _ _ _ _ (Za _ _ _ _ _ _ _ h.z6 (.inr (by decide))) (.inr (by decide))) (.inr (by decide))) (.inr (by decide))) (.inr (by decide))) (.inr (by decide))) ((World.frozen?_setCell _ _ _ _).trans ((World.frozen?_setCell _ _ _ _).trans ((World.frozen?_setCell _ _ _ _).trans ((World.frozen?_setCell _ _ _ _).trans ((World.frozen?_setCell _ _ _ _).trans ((World.frozen?_setCell _ _ _ _).trans h.f6)))))) (hc 6 (by decide))]
 simp only [Result.andThen]
 rw [Qp (P:=P) (Za _ _ _ _ _ _ _ (Za _ _ _ _ _ _ _ (Za _ _ _ _ _ _ _ (Za _ _ _ _ _ _ _ (Za _ _ _ _ _ _ _ (Za _ _ _ _ _ _ _ (Za _ _ _ _ _ _ _ h.z7 (.inr (by decide))) (.inr (by decide))) (.inr (by decide))) (.inr (by decide))) (.inr (by decide))) (.inr (by decide))) (.inr (by decide))) ((World.frozen?_setCell _ _ _ _).trans ((World.frozen?_setCell _ _ _ _).trans ((World.frozen?_setCell _ _ _ _).trans ((World.frozen?_setCell _ _ _ _).trans ((World.frozen?_setCell _ _ _ _).trans ((World.frozen?_setCell _ _ _ _).trans ((World.frozen?_setCell _ _ _ _).trans h.f7))))))) (hc 7 (by decide))]
 rfl
theorem Xa0 {w:World} {b:Nat} {W:Nat→Value} (h:NewE w b): ∀i,i<8→(putE w b W).cell? ⟨b,1+i,none⟩=some (W i):=by
 intro i j
 match i,j with
 | 0,_=>exact (Za _ _ _ _ _ _ _ (Za _ _ _ _ _ _ _ (Za _ _ _ _ _ _ _ (Za _ _ _ _ _ _ _ (Za _ _ _ _ _ _ _ (Za _ _ _ _ _ _ _ (Za _ _ _ _ _ _ _ (World.cell?_setCell_same' _ _ _ (by rw [h.z0];rfl)) (.inr (by decide))) (.inr (by decide))) (.inr (by decide))) (.inr (by decide))) (.inr (by decide))) (.inr (by decide))) (.inr (by decide)))
 | 1,_=>exact (Za _ _ _ _ _ _ _ (Za _ _ _ _ _ _ _ (Za _ _ _ _ _ _ _ (Za _ _ _ _ _ _ _ (Za _ _ _ _ _ _ _ (Za _ _ _ _ _ _ _ (World.cell?_setCell_same' _ _ _ (by rw [(Za _ _ _ _ _ _ _ h.z1 (.inr (by decide)))];rfl)) (.inr (by decide))) (.inr (by decide))) (.inr (by decide))) (.inr (by decide))) (.inr (by decide))) (.inr (by decide)))
 | 2,_=>exact (Za _ _ _ _ _ _ _ (Za _ _ _ _ _ _ _ (Za _ _ _ _ _ _ _ (Za _ _ _ _ _ _ _ (Za _ _ _ _ _ _ _ (World.cell?_setCell_same' _ _ _ (by rw [(Za _ _ _ _ _ _ _ (Za _ _ _ _ _ _ _ h.z2 (.inr (by decide))) (.inr (by decide)))];rfl)) (.inr (by decide))) (.inr (by decide))) (.inr (by decide))) (.inr (by decide))) (.inr (by decide)))
 | 3,_=>exact (Za _ _ _ _ _ _ _ (Za _ _ _ _ _ _ _ (Za _ _ _ _ _ _ _ (Za _ _ _ _ _ _ _ (World.cell?_setCell_same' _ _ _ (by rw [(Za _ _ _ _ _ _ _ (Za _ _ _ _ _ _ _ (Za _ _ _ _ _ _ _ h.z3 (.inr (by decide))) (.inr (by decide))) (.inr (by decide)))];rfl)) (.inr (by decide))) (.inr (by decide))) (.inr (by decide))) (.inr (by decide)))
 | 4,_=>exact (Za _ _ _ _ _ _ _ (Za _ _ _ _ _ _ _ (Za _ _ _ _ _ _ _ (World.cell?_setCell_same' _ _ _ (by rw [(Za _ _ _ _ _ _ _ (Za _ _ _ _ _ _ _ (Za _ _ _ _ _ _ _ (Za _ _ _ _ _ _ _ h.z4 (.inr (by decide))) (.inr (by decide))) (.inr (by decide))) (.inr (by decide)))];rfl)) (.inr (by decide))) (.inr (by decide))) (.inr (by decide)))
 | 5,_=>exact (Za _ _ _ _ _ _ _ (Za _ _ _ _ _ _ _ (World.cell?_setCell_same' _ _ _ (by rw [(Za _ _ _ _ _ _ _ (Za _ _ _ _ _ _ _ (Za _ _ _ _ _ _ _ (Za _ _ _ _ _ _ _ (Za _ _ _ _ _ _ _ h.z5 (.inr (by decide))) (.inr (by decide))) (.inr (by decide))) (.inr (by decide))) (.inr (by decide)))];rfl)) (.inr (by decide))) (.inr (by decide)))
 | 6,_=>exact (Za _ _ _ _ _ _ _ (World.cell?_setCell_same' _ _ _ (by rw [(Za _ _ _ _ _ _ _ (Za _ _ _ _ _ _ _ (Za _ _ _ _ _ _ _ (Za _ _ _ _ _ _ _ (Za _ _ _ _ _ _ _ (Za _ _ _ _ _ _ _ h.z6 (.inr (by decide))) (.inr (by decide))) (.inr (by decide))) (.inr (by decide))) (.inr (by decide))) (.inr (by decide)))];rfl)) (.inr (by decide)))
 | 7,_=>exact (World.cell?_setCell_same' _ _ _ (by rw [(Za _ _ _ _ _ _ _ (Za _ _ _ _ _ _ _ (Za _ _ _ _ _ _ _ (Za _ _ _ _ _ _ _ (Za _ _ _ _ _ _ _ (Za _ _ _ _ _ _ _ (Za _ _ _ _ _ _ _ h.z7 (.inr (by decide))) (.inr (by decide))) (.inr (by decide))) (.inr (by decide))) (.inr (by decide))) (.inr (by decide))) (.inr (by decide)))];rfl))
theorem Xaa {w:World} {b p o:Nat} {W:Nat→Value} {v:Value} (h:w.cell? ⟨p,o,none⟩=some v) (j:p≠b∨o<1):(putE w b W).cell? ⟨p,o,none⟩=some v:=
 (Za _ _ _ _ _ _ _ (Za _ _ _ _ _ _ _ (Za _ _ _ _ _ _ _ (Za _ _ _ _ _ _ _ (Za _ _ _ _ _ _ _ (Za _ _ _ _ _ _ _ (Za _ _ _ _ _ _ _ (Za _ _ _ _ _ _ _ h (by omega)) (by omega)) (by omega)) (by omega)) (by omega)) (by omega)) (by omega)) (by omega))
theorem putE_frozen {w:World} {b:Nat} {W:Nat→Value} {a:Addr}:(putE w b W).frozen? a=w.frozen? a:=by
 simp only [putE,World.frozen?_setCell]
theorem Jd0 {w:World} {b:Nat} {W:Nat→Value} {n:Nat} (hb:n≤b):Below n w (putE w b W):=(((((((((Below.refl n w).setCell (p:=⟨b,1,none⟩) hb (W 0)).setCell (p:=⟨b,2,none⟩) hb (W 1)).setCell (p:=⟨b,3,none⟩) hb (W 2)).setCell (p:=⟨b,4,none⟩) hb (W 3)).setCell (p:=⟨b,5,none⟩) hb (W 4)).setCell (p:=⟨b,6,none⟩) hb (W 5)).setCell (p:=⟨b,7,none⟩) hb (W 6)).setCell (p:=⟨b,8,none⟩) hb (W 7))
theorem Zd1 (w:World) (b:Nat) (W:Nat→Value):KeepsOthers w (putE w b W):=((((((((KeepsOthers.setCell w ⟨b,1,none⟩ (W 0)).trans (KeepsOthers.setCell _ ⟨b,2,none⟩ (W 1))).trans (KeepsOthers.setCell _ ⟨b,3,none⟩ (W 2))).trans (KeepsOthers.setCell _ ⟨b,4,none⟩ (W 3))).trans (KeepsOthers.setCell _ ⟨b,5,none⟩ (W 4))).trans (KeepsOthers.setCell _ ⟨b,6,none⟩ (W 5))).trans (KeepsOthers.setCell _ ⟨b,7,none⟩ (W 6))).trans (KeepsOthers.setCell _ ⟨b,8,none⟩ (W 7)))
set_option maxRecDepth 100000 in
set_option maxHeartbeats 4000000 in
theorem Zh3 (F:Fence) (n:Nat) (hF:F.fn 223∧F.fn 280∧F.fn 131∧F.fn 211) (U:F.round=none) (hn:3≤n) (I j lb J m c:Nat) (x r:Int) (W:Nat→Value) (w:World) (an:lb≠I)
  (h0:w.cell? ⟨I,j,none⟩=some (.slice (some ⟨lb,J,none⟩) m c)) (al:0≤x) (ak:x<m) (O: ∀i,i<8→w.cell? ⟨lb,J+x.toNat*8+i,none⟩=some (W i)) (am: ∀i,i<8→isCell (W i)=true) (hr:w.cell? ⟨I,j+2,none⟩=some (.int .i64 r)) (hz:w.frozen? ⟨I,j+2,none⟩=false):
  CallsIn F n Tryz.prog 223 #[.pointer (some ⟨I,j,none⟩),.int .i64 x] w λe w'=>e= .returned (.tuple #[XfB W,.int .i64 0])∧ ∃w1,Below w.heap.size w w1∧Below w.heap.size (w1.setCell ⟨I,j+2,none⟩ (.int .i64 (wrap64 (r+1)))) w':=by
 have h1:1≤n:=by omega
 have e0:w.cell? ⟨lb,J+x.toNat*8,none⟩=some (W 0):=by simpa using O 0 (by decide)
 have e1:w.cell? ⟨lb,J+x.toNat*8+1,none⟩=some (W 1):=by simpa using O 1 (by decide)
 have e2:w.cell? ⟨lb,J+x.toNat*8+2,none⟩=some (W 2):=by simpa using O 2 (by decide)
 have e3:w.cell? ⟨lb,J+x.toNat*8+3,none⟩=some (W 3):=by simpa using O 3 (by decide)
 have e4:w.cell? ⟨lb,J+x.toNat*8+4,none⟩=some (W 4):=by simpa using O 4 (by decide)
 have e5:w.cell? ⟨lb,J+x.toNat*8+5,none⟩=some (W 5):=by simpa using O 5 (by decide)
 have e6:w.cell? ⟨lb,J+x.toNat*8+6,none⟩=some (W 6):=by simpa using O 6 (by decide)
 have e7:w.cell? ⟨lb,J+x.toNat*8+7,none⟩=some (W 7):=by simpa using O 7 (by decide)
 obtain ⟨k,rfl⟩: ∃k:Nat,x=k:=⟨x.toNat,by omega⟩
 simp only [Int.toNat_natCast] at*
 have ao:k<m:=by omega
 have hd:Hid (DevW w I j lb J m c k r W):=⟨h0,e0,e1,e2,e3,e4,e5,e6,e7⟩
 have hB:Hid (I<w.heap.size):=by
  obtain ⟨o,ho,_⟩:=cells_of_cell h0
  exact (Array.getElem?_eq_some_iff.1 ho).1
 have ap:Hid (w.cell? ⟨I,j+2,none⟩=some (.int .i64 r)∧w.frozen? ⟨I,j+2,none⟩=false):=⟨hr,hz⟩
 clear e0 e1 e2 e3 e4 e5 e6 e7
 refine callsIn_of_wp Tryz.func223 rfl hF.1 ?_ U
 simp only [Tryz.ntmps223,List.size_toArray,List.length_cons,List.length_nil,Nat.reduceAdd,Nat.reduceSub,Array.replicate_succ,Array.replicate_zero,List.push_toArray,List.append_toArray,List.nil_append,List.cons_append]
 gi_wp2_with (first
  |(gi_at_call 280
    refine (Jhz F (n-1) hF.2.1 U I j m c _ _ _ (Jl h0) al ak).mono ?_
    rintro e w' ⟨rfl,rfl⟩
    have ad:Hid (NewL (w.alloc (.cells #[.int .u64 0,.int .u64 0,.int .u64 0,.int .u64 0,.int .u64 0,.int .u64 0,.int .u64 0,.int .u64 0] 43)) w.heap.size):=NewL.new w 43
    have ac:(w.alloc (.cells #[.int .u64 0,.int .u64 0,.int .u64 0,.int .u64 0,.int .u64 0,.int .u64 0,.int .u64 0,.int .u64 0] 43)).cell? ⟨I,j+2,none⟩=some (.int .i64 r):=Jl hr
    have ab:(w.alloc (.cells #[.int .u64 0,.int .u64 0,.int .u64 0,.int .u64 0,.int .u64 0,.int .u64 0,.int .u64 0,.int .u64 0] 43)).frozen? ⟨I,j+2,none⟩=false:=(XV hr).trans hz
    have aa:Hid (DevW (w.alloc (.cells #[.int .u64 0,.int .u64 0,.int .u64 0,.int .u64 0,.int .u64 0,.int .u64 0,.int .u64 0,.int .u64 0] 43)) I j lb J m c k r W):=hd.out.alloc
    have ae:Hid (Below w.heap.size w (w.alloc (.cells #[.int .u64 0,.int .u64 0,.int .u64 0,.int .u64 0,.int .u64 0,.int .u64 0,.int .u64 0,.int .u64 0] 43))):=(Below.refl _ w).alloc (Nat.le_refl _) _
    obtain ⟨w1,aj⟩: ∃w1,w.alloc (.cells #[.int .u64 0,.int .u64 0,.int .u64 0,.int .u64 0,.int .u64 0,.int .u64 0,.int .u64 0,.int .u64 0] 43)=w1:=⟨_,rfl⟩
    rw [aj] at ad ac ab aa ae ⊢
    clear aj)
  |(gi_at_call 131
    refine (Qg2 F (n-1) hF.2.2.1 hF.2.2.2 U I (j+2) r _ ac ab).mono ?_
    rintro e w' ⟨rfl,rfl⟩
    have V:=ad.out.set (p:=I) (o:=j+2) (v:= .int .i64 (wrap64 (r+1))) (Nat.ne_of_gt hB.out)
    have ah:=aa.out.set (v:= .int .i64 (wrap64 (r+1))) an
    obtain ⟨w2,Q⟩: ∃w2,w1.setCell ⟨I,j+2,none⟩ (.int .i64 (wrap64 (r+1)))=w2:=⟨_,rfl⟩
    rw [Q] at V ah ⊢
    have af:Hid (w1.setCell ⟨I,j+2,none⟩ (.int .i64 (wrap64 (r+1)))=w2):=Q
    clear Q
    obtain ⟨p0,p0_,p1_,p2_,p3_,p4_,p5_,p6_,p7_⟩:=ah
    have Z:Hid (NewL w2 w.heap.size):=V
    clear V)
  |(rw [Xhl Z.out am]
    have E:=Qdw (W:=W) Z.out
    have y0:=E 0 (by decide)
    have y1:=E 1 (by decide)
    have y2:=E 2 (by decide)
    have y3:=E 3 (by decide)
    have y4:=E 4 (by decide)
    have y5:=E 5 (by decide)
    have y6:=E 6 (by decide)
    have y7:=E 7 (by decide)
    have Y:Hid (Below w.heap.size w2 (JdT w2 w.heap.size W)):=Xc6 (Nat.le_refl _)
    obtain ⟨w3,ai⟩: ∃w3,JdT w2 w.heap.size W=w3:=⟨_,rfl⟩
    rw [ai] at y0 y1 y2 y3 y4 y5 y6 y7 Y ⊢
    clear ai E))
 refine bodyPost_ret (v:= .tuple #[XfB W,.int .i64 0]) (by simp [results,Tryz.f223,go_sem,XfB,y0,y1,y2,y3,y4,y5,y6,y7]) rfl ⟨rfl,w1,ae.out,?_⟩
 rw [af.out];exact Y.out
end
section
open Go.RowKit Go.Shelf
attribute [local go_sem] Oper.semAt_some
theorem Xgc {W W':World} {row:Option Nat} {b:Nat} (h:NewL W b) (E:W.grownBy W' row) (j: ∀r,row=some r→ ∃o:Obj,W.heap[r]? =some o∧o.isCells=false):NewL W' b:=
 ⟨cell_kept h.z0 E j,cell_kept h.z1 E j,cell_kept h.z2 E j,cell_kept h.z3 E j,cell_kept h.z4 E j,cell_kept h.z5 E j,cell_kept h.z6 E j,cell_kept h.z7 E j,(frozen_kept h.z0 E j).trans h.f0,(frozen_kept h.z1 E j).trans h.f1,(frozen_kept h.z2 E j).trans h.f2,(frozen_kept h.z3 E j).trans h.f3,(frozen_kept h.z4 E j).trans h.f4,(frozen_kept h.z5 E j).trans h.f5,(frozen_kept h.z6 E j).trans h.f6,(frozen_kept h.z7 E j).trans h.f7⟩
theorem Jdo (w:World) (cs:Array Value) (t:TypeId) (i:Nat):(w.alloc (.cells cs t)).cell? ⟨w.heap.size,i,none⟩=cs[i]? :=by
 unfold World.cell?;simp only [World.alloc_heap_new];rfl
theorem ZfX (w:World) (cs:Array Value) (t:TypeId) (i:Nat):(w.alloc (.cells cs t)).frozen? ⟨w.heap.size,i,none⟩=false:=by
 unfold World.frozen?;simp only [World.alloc_heap_new];simp
theorem NewL.alloc {w:World} {b:Nat} {o:Obj} (h:NewL w b):NewL (w.alloc o) b:=
 ⟨Jl h.z0,Jl h.z1,Jl h.z2,Jl h.z3,Jl h.z4,Jl h.z5,Jl h.z6,Jl h.z7,(XV h.z0).trans h.f0,(XV h.z1).trans h.f1,(XV h.z2).trans h.f2,(XV h.z3).trans h.f3,(XV h.z4).trans h.f4,(XV h.z5).trans h.f5,(XV h.z6).trans h.f6,(XV h.z7).trans h.f7⟩
structure RdI (s:Nat) (x:Int) (W:World):Prop where
 c:W.cell? ⟨s,0,none⟩=some (.int .i64 x)
 l:NewL W (s+1)
 e:W.cell? ⟨s+1+1,0,none⟩=some (.int .i64 0)
 ef:W.frozen? ⟨s+1+1,0,none⟩=false
theorem RdI.kept {s:Nat} {x:Int} {W W':World} {row:Option Nat} (h:RdI s x W) (E:W.grownBy W' row) (j: ∀r,row=some r→ ∃o:Obj,W.heap[r]? =some o∧o.isCells=false):RdI s x W':=
 ⟨cell_kept h.c E j,Xgc h.l E j,cell_kept h.e E j,(frozen_kept h.e E j).trans h.ef⟩
theorem RdI.alloc {s:Nat} {x:Int} {W:World} {o:Obj} (h:RdI s x W):RdI s x (W.alloc o):=h.kept (World.grownBy_alloc W o none) (λr e=>by cases e)
theorem RdI.putE {s b:Nat} {x:Int} {W:World} {e:Nat→Value} (h:RdI s x W) (hb:s+1+1<b):RdI s x (putE W b e):=
 ⟨Xaa h.c (.inl (by omega)),⟨Xaa h.l.z0 (.inl (by omega)),Xaa h.l.z1 (.inl (by omega)),Xaa h.l.z2 (.inl (by omega)),Xaa h.l.z3 (.inl (by omega)),Xaa h.l.z4 (.inl (by omega)),Xaa h.l.z5 (.inl (by omega)),Xaa h.l.z6 (.inl (by omega)),Xaa h.l.z7 (.inl (by omega)),putE_frozen.trans h.l.f0,putE_frozen.trans h.l.f1,putE_frozen.trans h.l.f2,putE_frozen.trans h.l.f3,putE_frozen.trans h.l.f4,putE_frozen.trans h.l.f5,putE_frozen.trans h.l.f6,putE_frozen.trans h.l.f7⟩,Xaa h.e (.inl (by omega)),putE_frozen.trans h.ef⟩
structure RdX (s:Nat) (x:Int) (L:Nat→Int) (E:Nat→Nat→Value) (c:Code) (pre:List Nat) (W:World):Prop where
 c:c= .ret
 p: ∃ini k,pre=ini++[k]∧(∀j∈ini,L j≠x)∧L k=x∧(∀i,i<8→W.cell? ⟨s+1,i,none⟩=some (E k i))
 e:W.cell? ⟨s+1+1,0,none⟩=some (.int .i64 0)
theorem RdX.kept {s:Nat} {x:Int} {L:Nat→Int} {E:Nat→Nat→Value} {c:Code} {j:List Nat} {W W':World} {row:Option Nat} (h:RdX s x L E c j W) (O:W.grownBy W' row) (J: ∀r,row=some r→ ∃o:Obj,W.heap[r]? =some o∧o.isCells=false):RdX s x L E c j W':=by
 obtain ⟨Q,⟨I,k,h2,Z,h4,U⟩,V⟩:=h
 exact ⟨Q,⟨I,k,h2,Z,h4,λi Y=>cell_kept (U i Y) O J⟩,cell_kept V O J⟩
structure BoxE (W:World) (B:Nat) (v:Int) (e:Nat→Value):Prop where
 c0:W.cell? ⟨B,0,none⟩=some (.int .i64 v)
 c1:W.cell? ⟨B,1,none⟩=some (e 0)
 c2:W.cell? ⟨B,2,none⟩=some (e 1)
 c3:W.cell? ⟨B,3,none⟩=some (e 2)
 c4:W.cell? ⟨B,4,none⟩=some (e 3)
 c5:W.cell? ⟨B,5,none⟩=some (e 4)
 c6:W.cell? ⟨B,6,none⟩=some (e 5)
 c7:W.cell? ⟨B,7,none⟩=some (e 6)
 c8:W.cell? ⟨B,8,none⟩=some (e 7)
theorem BoxE.kept {W W':World} {row:Option Nat} {B:Nat} {v:Int} {e:Nat→Value} (h:BoxE W B v e) (E:W.grownBy W' row) (j: ∀r,row=some r→ ∃o:Obj,W.heap[r]? =some o∧o.isCells=false):BoxE W' B v e:=
 ⟨cell_kept h.c0 E j,cell_kept h.c1 E j,cell_kept h.c2 E j,cell_kept h.c3 E j,cell_kept h.c4 E j,cell_kept h.c5 E j,cell_kept h.c6 E j,cell_kept h.c7 E j,cell_kept h.c8 E j⟩
set_option maxRecDepth 100000 in
set_option maxHeartbeats 400000 in
theorem QhG (F:Fence) (n:Nat) (hF:F.fn 194∧F.fn 272∧F.fn 299∧F.fn 223) (bd:F.fn 223∧F.fn 280∧F.fn 131∧F.fn 211) (ak:F.round=none) (hn:7≤n) (b off I J sb so len cap:Nat) (a:Option Addr) (x:Int) (L:Nat→Int) (E:Nat→Nat→Value) (w:World) (R:Ending→World→Prop)
  (hq:w.cell? ⟨b,off,none⟩=some (.pointer (some ⟨I,J,none⟩))) (aS:w.cell? ⟨b,off+2,none⟩=some (.slice a len cap)) (ha:0<len→a=some ⟨sb,so,none⟩) (aI:len<1099511627776)
  (hL: ∀j,j<len→w.cell? ⟨sb,so+j*9,none⟩=some (.int .i64 (L j))) (hE: ∀j i,j<len→i<8→w.cell? ⟨sb,so+j*9+1+i,none⟩=some (E j i)) (aL: ∀j i,isU64 (E j i)=true)
  (an: ∀k,k<len→L k=x→(∀j,k<j→j<len→L j≠x)→ ∀w1,Below w.heap.size w w1→R (.returned (.tuple #[XfB (E k),.int .i64 0])) w1)
  (ar:(∀j,j<len→L j≠x)→ ∃(lb lo m c:Nat) (r:Int) (W:Nat→Value),lb≠I∧w.cell? ⟨I,J,none⟩=some (.slice (some ⟨lb,lo,none⟩) m c)∧0≤x∧x<m∧m<1099511627776∧
   (∀i,i<8→w.cell? ⟨lb,lo+x.toNat*8+i,none⟩=some (W i))∧(∀i,isU64 (W i)=true)∧w.cell? ⟨I,J+2,none⟩=some (.int .i64 r)∧w.frozen? ⟨I,J+2,none⟩=false∧
   ∀w1 w2,Below w.heap.size w w1→Below w.heap.size (w1.setCell ⟨I,J+2,none⟩ (.int .i64 (IntKind.wrap .i64 (r+1)))) w2→R (.returned (.tuple #[XfB W,.int .i64 0])) w2):
  CallsIn F n Tryz.prog 194 #[.pointer (some ⟨b,off,none⟩),.int .i64 x] w R:=by
 have aB: ∀j i,isCell (E j i)=true:=λj i=>ZfF (aL j i)
 clear aL
 have h1:1≤n:=by omega
 have ba:(((w.alloc (.cells #[.int .i64 x] 3)).alloc (.cells #[.int .u64 0,.int .u64 0,.int .u64 0,.int .u64 0,.int .u64 0,.int .u64 0,.int .u64 0,.int .u64 0] 43)).alloc (.cells #[.int .i64 0] 28)).cell? ⟨b,off,none⟩=some (.pointer (some ⟨I,J,none⟩)):=Jl (Jl (Jl hq))
 have aA:(((w.alloc (.cells #[.int .i64 x] 3)).alloc (.cells #[.int .u64 0,.int .u64 0,.int .u64 0,.int .u64 0,.int .u64 0,.int .u64 0,.int .u64 0,.int .u64 0] 43)).alloc (.cells #[.int .i64 0] 28)).cell? ⟨b,off+2,none⟩=some (.slice a len cap):=Jl (Jl (Jl aS))
 have ay:Hid (RdI w.heap.size x ((((w.alloc (.cells #[.int .i64 x] 3)).alloc (.cells #[.int .u64 0,.int .u64 0,.int .u64 0,.int .u64 0,.int .u64 0,.int .u64 0,.int .u64 0,.int .u64 0] 43)).alloc (.cells #[.int .i64 0] 28)).alloc (.cells #[.slice a len cap] 226))):=by
  have hl:=NewL.new (w.alloc (.cells #[.int .i64 x] 3)) 43
  rw [World.size_alloc] at hl
  have he:=Jdo ((w.alloc (.cells #[.int .i64 x] 3)).alloc (.cells #[.int .u64 0,.int .u64 0,.int .u64 0,.int .u64 0,.int .u64 0,.int .u64 0,.int .u64 0,.int .u64 0] 43)) #[.int .i64 0] 28 0
  have hf:=ZfX ((w.alloc (.cells #[.int .i64 x] 3)).alloc (.cells #[.int .u64 0,.int .u64 0,.int .u64 0,.int .u64 0,.int .u64 0,.int .u64 0,.int .u64 0,.int .u64 0] 43)) #[.int .i64 0] 28 0
  rw [World.size_alloc,World.size_alloc] at he hf
  exact ⟨Jl (Jl (Jl (Jdo w _ _ 0))),hl.alloc.alloc,Jl he,(XV he).trans hf⟩
 have ap:Hid (((((w.alloc (.cells #[.int .i64 x] 3)).alloc (.cells #[.int .u64 0,.int .u64 0,.int .u64 0,.int .u64 0,.int .u64 0,.int .u64 0,.int .u64 0,.int .u64 0] 43)).alloc (.cells #[.int .i64 0] 28)).alloc (.cells #[.slice a len cap] 226)).cell? ⟨w.heap.size+1+1+1,0,none⟩=some (.slice a len cap)):=by
  have h:=Jdo (((w.alloc (.cells #[.int .i64 x] 3)).alloc (.cells #[.int .u64 0,.int .u64 0,.int .u64 0,.int .u64 0,.int .u64 0,.int .u64 0,.int .u64 0,.int .u64 0] 43)).alloc (.cells #[.int .i64 0] 28)) #[.slice a len cap] 226 0
  rw [World.size_alloc,World.size_alloc,World.size_alloc] at h
  exact h
 have am:Hid (Below w.heap.size w ((((w.alloc (.cells #[.int .i64 x] 3)).alloc (.cells #[.int .u64 0,.int .u64 0,.int .u64 0,.int .u64 0,.int .u64 0,.int .u64 0,.int .u64 0,.int .u64 0] 43)).alloc (.cells #[.int .i64 0] 28)).alloc (.cells #[.slice a len cap] 226))):=((((Below.refl _ w).alloc (Nat.le_refl _) _).alloc (by simp) _).alloc (by simp;omega) _).alloc (by simp;omega) _
 have U:Hid (((((w.alloc (.cells #[.int .i64 x] 3)).alloc (.cells #[.int .u64 0,.int .u64 0,.int .u64 0,.int .u64 0,.int .u64 0,.int .u64 0,.int .u64 0,.int .u64 0] 43)).alloc (.cells #[.int .i64 0] 28)).alloc (.cells #[.slice a len cap] 226)).heap.size=w.heap.size+4):=by show _=_;simp
 refine callsIn_of_wp_marks Tryz.func194 rfl hF.1 ?_ ak
 simp only [Tryz.ntmps194,List.size_toArray,List.length_cons,List.length_nil,Nat.reduceAdd,Nat.reduceSub,Array.replicate_succ,Array.replicate_zero,List.push_toArray,List.append_toArray,List.nil_append,List.cons_append]
 gi_wp2_with (gi_at_call 272;refine (XhD F (n-1) hF.2.1 ak _ _ _ _).mono ?_;rintro e w' ⟨rfl,rfl⟩)
 obtain ⟨w3,aH⟩: ∃w3,(((w.alloc (.cells #[.int .i64 x] 3)).alloc (.cells #[.int .u64 0,.int .u64 0,.int .u64 0,.int .u64 0,.int .u64 0,.int .u64 0,.int .u64 0,.int .u64 0] 43)).alloc (.cells #[.int .i64 0] 28)).alloc (.cells #[.slice a len cap] 226)=w3:=⟨_,rfl⟩
 rw [aH] at ay ap am U ⊢
 clear aH ba aA
 have aj: ∀j,j<len→sb<w.heap.size:=λj hj=>by
  obtain ⟨o,ho,_⟩:=cells_of_cell (hL j hj)
  exact (Array.getElem?_eq_some_iff.1 ho).1
 have aR:b<w.heap.size:=by
  obtain ⟨o,ho,_⟩:=cells_of_cell hq
  exact (Array.getElem?_eq_some_iff.1 ho).1
 refine wpIn_rangeFunc_ownH ak h1 (gf:=299) (lb:= #[.pointer (some ⟨w.heap.size+1+1+1,0,none⟩)]) rfl hF.2.2.1 (enters_of Tryz.func299 (by kernel_rfl) rfl)
  (QfL F (n-1) hF.2.2.1 ak (by omega) (w.heap.size+1+1+1) w3.heap.size sb so len cap a L E aI ha (λh=>by have:=aj 0 h;have:=U.out;omega) w3 (by have:=U.out;omega) (by have:=U.out;omega) (Nat.le_refl _) ap.out
   (λj hj=>(am.out.cell (p:=⟨sb,so+j*9,none⟩) (aj j hj)).trans (hL j hj)) (λj i hj hi=>(am.out.cell (p:=⟨sb,so+j*9+1+i,none⟩) (aj j hj)).trans (hE j i hj hi)))
  belowK_t (belowK_b (Nat.le_refl _)) (Below.refl _ _) (λ_=>rfl)
  (λae W=>(RdI w.heap.size x W∧(∀j∈ae,L j≠x)∧w3.heap.size≤W.heap.size)∧Below w.heap.size w W)
  (λc ae W=>RdX w.heap.size x L E c ae W∧Below w.heap.size w W)
  (OwnFrom.and (Own.from (λs A B row hs hg hr=>⟨hs.1.kept hg hr,hs.2.1,Nat.le_trans hs.2.2 hg.size⟩) _) (ownFrom_below (Nat.le_refl _) (by have:=U.out;omega)))
  (λc=>OwnFrom.and (Own.from (λs A B row hs hg hr=>hs.kept hg hr) _) (ownFrom_below (Nat.le_refl _) (by have:=U.out;omega)))
  ⟨⟨ay.out,(λj hj=>by cases hj),Nat.le_refl _⟩,am.out⟩
  (λk a' W=> ∃Bx,w3.heap.size≤Bx∧BoxE W Bx (L k) (E k)∧a'={ tmps:= #[.pointer (some ⟨b,off,none⟩),.int .i64 x,undef,.pointer (some ⟨w.heap.size,0,none⟩),.pointer (some ⟨w.heap.size+1,0,none⟩),.pointer (some ⟨w.heap.size+1+1,0,none⟩),undef,.pointer (some ⟨Bx,0,none⟩),
   .pointer (some ⟨b,off,none⟩),.bool false,undef,.pointer (some ⟨b,off,none⟩),.pointer (some ⟨b,off,none⟩),.pointer (some ⟨b,off+2,none⟩),.slice a len cap,.func (.func 299) #[] #[.pointer (some ⟨w.heap.size+1+1+1,0,none⟩)],.int .i64 (k:Nat),Xgt L E k,
   undef,undef,undef,undef,undef,undef,undef,undef,undef,undef,undef,undef,undef,undef],defers:=[] })
  (λk a' _ X Y row hs hg hr=>by obtain ⟨Bx,h1,h2,h3⟩:=hs;exact ⟨Bx,h1,h2.kept hg (λr e=>(hr r e).2),h3⟩)
  ?assign ?body ?done ?stop
 case assign=>
  rintro l ae k W K ⟨⟨Z,ah,ac⟩,Q⟩ hK
  simp only [Xgt] at hK ⊢
  have hn:=NewE.new W (L k) 242
  have aV:=Jdo W #[.int .i64 (L k),.int .u64 0,.int .u64 0,.int .u64 0,.int .u64 0,.int .u64 0,.int .u64 0,.int .u64 0,.int .u64 0] 242 0
  gi_wp2_with (rw [JhV hn (λi _=>aB k i)])
  refine hK _ _ (((KeepsOthers.alloc _ _).trans (Zd1 _ _ _)).from _) (((Below.refl _ W).alloc ac _).trans (Jd0 ac)) ⟨⟨?_,ah,Nat.le_trans ac ?_⟩,(Q.alloc Q.size _).trans (Jd0 Q.size)⟩ ⟨W.heap.size,ac,?_,rfl⟩
  ·exact Z.alloc.putE (by have:=U.out;omega)
  ·exact Nat.le_trans (by simp) (Zd1 _ _ _).size
  ·exact ⟨Xaa aV (.inr (by decide)),Xa0 hn 0 (by decide),Xa0 hn 1 (by decide),Xa0 hn 2 (by decide),Xa0 hn 3 (by decide),Xa0 hn 4 (by decide),Xa0 hn 5 (by decide),Xa0 hn 6 (by decide),Xa0 hn 7 (by decide)⟩
 case body=>
  rintro l ae k a' W hl ⟨r,hr⟩ ⟨⟨Z,ah,ac⟩,Q⟩ ⟨Bx,bm,hX,rfl⟩ aa
  have aP:=Z.c
  have aT:=Z.e
  have bf:=Z.ef
  have ai:Hid (w.heap.size+1≠Bx):=by have:=U.out;show _≠_;omega
  have az:Hid (NewL W (w.heap.size+1)):=Z.l
  obtain ⟨x0,x1,x2,x3,x4,x5,x6,x7,x8⟩:=hX
  by_cases hLk:L k=x
  ·gi_wp2
   rw [Xhl az.out (λi _=>aB k i)]
   have aG:(JdT W (w.heap.size+1) (E k)).cell? ⟨w.heap.size+1+1,0,none⟩=some (.int .i64 0):=Zd4 aT (by omega)
   have aO:(JdT W (w.heap.size+1) (E k)).frozen? ⟨w.heap.size+1+1,0,none⟩=false:=put8_frozen.trans bf
   have aw:Hid (∀i,i<8→(JdT W (w.heap.size+1) (E k)).cell? ⟨w.heap.size+1,i,none⟩=some (E k i)):=λi hi=>by have h:=Qdw (W:=E k) az.out i hi;simpa using h
   have aK:Hid (KeepsOthers W (JdT W (w.heap.size+1) (E k))):=Zd7 _ _ _
   have aM:Hid (Below w.heap.size w (JdT W (w.heap.size+1) (E k))):=Q.trans (Xc6 (by omega))
   obtain ⟨w4,aE⟩: ∃w4,JdT W (w.heap.size+1) (E k)=w4:=⟨_,rfl⟩
   rw [aE] at aG aO aw aK aM ⊢
   clear aE
   gi_wp2
   exact ⟨(aK.out.trans (KeepsOthers.setCell _ _ _)).from _,⟨rfl,⟨ae,k,rfl,ah,hLk,λi hi=>Za _ _ _ _ _ _ _ (aw.out i hi) (.inl (by omega))⟩,World.cell?_setCell_same' _ _ _ (by rw [aG];rfl)⟩,aM.out.setCell (p:=⟨w.heap.size+1+1,0,none⟩) (by show _≤_;simp;omega) _⟩
  ·gi_wp2
   exact ⟨KeepsFrom.refl _ _,Below.refl _ _,⟨Z,λj hj=>(List.mem_append.1 hj).elim (ah j) (λe=>by simp at e;subst e;exact hLk),ac⟩,Q⟩
 case done=>
  rintro D ys W hD rfl ⟨⟨Z,ah,ac⟩,Q⟩ hK
  have bb: ∀j,j<len→L j≠x:=λj hj=>ah j (by
   simp only [XbC,List.mem_map,List.mem_range]
   exact ⟨len-1-j,by omega,by omega⟩)
  obtain ⟨lb,lo,m,c,r,V,ai,g0,aU,aQ,bh,gV,av,gr,gf,hR⟩:=ar bb
  obtain ⟨z,rfl⟩: ∃z:Nat→Int,V=λi=> .int .u64 (z i):=by
   refine ⟨λi=>match V i with| .int _ y=>y|_=>0,funext λi=> ?_⟩
   obtain ⟨y,hy⟩:=QgH (av i)
   show _=Value.int .u64 (match V i with| .int _ y=>y|_=>0)
   rw [hy]
  clear av
  have bi:W.cell? ⟨b,off,none⟩=some (.pointer (some ⟨I,J,none⟩)):=(Q.cell (p:=⟨b,off,none⟩) aR).trans hq
  have aP:=Z.c
  have al:Hid (W.cell? ⟨I,J,none⟩=some (.slice (some ⟨lb,lo,none⟩) m c)∧(∀i,i<8→W.cell? ⟨lb,lo+x.toNat*8+i,none⟩=some (.int .u64 (z i)))∧W.cell? ⟨I,J+2,none⟩=some (.int .i64 r)∧W.frozen? ⟨I,J+2,none⟩=false):=by
   have aa: ∀p v,w.cell? p=some v→W.cell? p=some v:=λp v h=>by
    obtain ⟨o,ho,_⟩:=cells_of_cell h
    exact (Q.cell (p:=p) (Array.getElem?_eq_some_iff.1 ho).1).trans h
   refine ⟨aa _ _ g0,λi hi=>aa _ _ (gV i hi),aa _ _ gr,?_⟩
   obtain ⟨o,ho,_⟩:=cells_of_cell gr
   exact (Q.frozen (p:=⟨I,J+2,none⟩) (Array.getElem?_eq_some_iff.1 ho).1).trans gf
  have aN:I<w.heap.size:=by
   obtain ⟨o,ho,_⟩:=cells_of_cell g0
   exact (Array.getElem?_eq_some_iff.1 ho).1
  clear gV g0 gr gf
  have ax:Hid (RdI w.heap.size x W):=Z
  have aF:Hid (W.heap[D]? =some (.deferred (some []))):=hK
  gi_wp2
  have bj:Tryz.prog.follows .mixedOrders=true:=by kernel_rfl
  have aq:Hid (CallsIn F (n-1) Tryz.prog 223 #[.pointer (some ⟨I,J,none⟩),.int .i64 x] W.drew λe w'=>e= .returned (.tuple #[XfB (λi=> .int .u64 (z i)),.int .i64 0])∧ ∃w1,Below W.drew.heap.size W.drew w1∧Below W.drew.heap.size (w1.setCell ⟨I,J+2,none⟩ (.int .i64 (wrap64 (r+1)))) w'):=
   Zh3 F (n-1) bd ak (by omega) I J lb lo m c x r (λi=> .int .u64 (z i)) W.drew ai ((World.cell?_drew _ _).trans al.out.1) aU aQ (λi hi=>(World.cell?_drew _ _).trans (al.out.2.1 i hi)) (λi _=>rfl) ((World.cell?_drew _ _).trans al.out.2.2.1) ((World.frozen?_drew _ _).trans al.out.2.2.2)
  have au:Hid (CallsIn F (n-1) Tryz.prog 223 #[.pointer (some ⟨I,J,none⟩),.int .i64 x] W.drew λe w'=>e= .returned (.tuple #[.agg #[.int .u64 (z 0),.int .u64 (z 1),.int .u64 (z 2),.int .u64 (z 3),.int .u64 (z 4),.int .u64 (z 5),.int .u64 (z 6),.int .u64 (z 7)],.int .i64 0])∧RdI w.heap.size x w'∧w'.heap[D]? =some (.deferred (some []))∧ ∃w1,Below w.heap.size w w1∧Below w.heap.size (w1.setCell ⟨I,J+2,none⟩ (.int .i64 (wrap64 (r+1)))) w'):=by
   refine aq.out.mono ?_
   rintro e w' ⟨rfl,w1,af,ad⟩
   have aY:W.drew.heap.size=W.heap.size:=rfl
   rw [aY] at af ad
   have bk:=U.out
   have aJ:D<W.heap.size:=(Array.getElem?_eq_some_iff.1 aF.out).1
   have bl:I<w.heap.size:=aN
   refine ⟨rfl,?_,?_,w1,(Q.trans ((Below.refl _ W).drew)).trans (af.mono (by omega)),ad.mono (by omega)⟩
   ·have hc: ∀p v,W.cell? p=some v→p.block≠I→w'.cell? p=some v:=λp v h ai=>by
     have aa:p.block<W.heap.size:=by
      obtain ⟨o,ho,_⟩:=cells_of_cell h
      exact (Array.getElem?_eq_some_iff.1 ho).1
     refine (ad.cell aa).trans ?_
     rw [World.cell?_of_block (Below.heap_setCell w1 ⟨I,J+2,none⟩ _ p.block ai)]
     exact (af.cell aa).trans h
    have hf: ∀p v,W.cell? p=some v→p.block≠I→w'.frozen? p=W.frozen? p:=λp v h ai=>by
     have aa:p.block<W.heap.size:=by
      obtain ⟨o,ho,_⟩:=cells_of_cell h
      exact (Array.getElem?_eq_some_iff.1 ho).1
     refine (ad.frozen aa).trans ?_
     rw [World.frozen?_of_block (Below.heap_setCell w1 ⟨I,J+2,none⟩ _ p.block ai)]
     exact af.frozen aa
    have O:=ax.out
    refine ⟨hc _ _ O.c (by show w.heap.size≠I;omega),⟨hc _ _ O.l.z0 (by show w.heap.size+1≠I;omega),hc _ _ O.l.z1 (by show w.heap.size+1≠I;omega),hc _ _ O.l.z2 (by show w.heap.size+1≠I;omega),hc _ _ O.l.z3 (by show w.heap.size+1≠I;omega),hc _ _ O.l.z4 (by show w.heap.size+1≠I;omega),hc _ _ O.l.z5 (by show w.heap.size+1≠I;omega),hc _ _ O.l.z6 (by show w.heap.size+1≠I;omega),hc _ _ O.l.z7 (by show w.heap.size+1≠I;omega),(hf _ _ O.l.z0 (by show w.heap.size+1≠I;omega)).trans O.l.f0,(hf _ _ O.l.z1 (by show w.heap.size+1≠I;omega)).trans O.l.f1,(hf _ _ O.l.z2 (by show w.heap.size+1≠I;omega)).trans O.l.f2,(hf _ _ O.l.z3 (by show w.heap.size+1≠I;omega)).trans O.l.f3,(hf _ _ O.l.z4 (by show w.heap.size+1≠I;omega)).trans O.l.f4,(hf _ _ O.l.z5 (by show w.heap.size+1≠I;omega)).trans O.l.f5,(hf _ _ O.l.z6 (by show w.heap.size+1≠I;omega)).trans O.l.f6,(hf _ _ O.l.z7 (by show w.heap.size+1≠I;omega)).trans O.l.f7⟩,hc _ _ O.e (by show w.heap.size+1+1≠I;omega),(hf _ _ O.e (by show w.heap.size+1+1≠I;omega)).trans O.ef⟩
   ·refine (ad.block D aJ).trans ?_
    rw [Below.heap_setCell w1 ⟨I,J+2,none⟩ _ D (by show D≠I;omega)]
    exact (af.block D aJ).trans aF.out
  clear aq
  gi_region_with_o (gi_at_call 223;refine au.out.mono ?_;rintro e w' ⟨rfl,aW,aZ,w1,af,ad⟩;obtain ⟨q1,⟨z0,z1,z2,z3,z4,z5,z6,z7,f0,f1,f2,f3,f4,f5,f6,f7⟩,q2,q3⟩:=aW)
  all_goals gi_wp2
  all_goals
   have hn:NewL w' (w.heap.size+1):=⟨z0,z1,z2,z3,z4,z5,z6,z7,f0,f1,f2,f3,f4,f5,f6,f7⟩
   have aX:=Qdw (W:=λi=> .int .u64 (z i)) hn
   have ab: ∀i,i<8→((JdT w' (w.heap.size+1) (λi=> .int .u64 (z i))).setCell ⟨w.heap.size+1+1,0,none⟩ (.int .i64 0)).cell? ⟨w.heap.size+1,i,none⟩=some (.int .u64 (z i)):=λi hi=>Za _ _ _ _ _ _ _ (by have h:=aX i hi;simpa using h) (.inl (by omega))
   have aC:((JdT w' (w.heap.size+1) (λi=> .int .u64 (z i))).setCell ⟨w.heap.size+1+1,0,none⟩ (.int .i64 0)).cell? ⟨w.heap.size+1+1,0,none⟩=some (.int .i64 0):=World.cell?_setCell_same' _ _ _ (by rw [Zd4 q2 (by omega)];rfl)
   have ao:((JdT w' (w.heap.size+1) (λi=> .int .u64 (z i))).setCell ⟨w.heap.size+1+1,0,none⟩ (.int .i64 0)).heap[D]? =some (.deferred (some [])):=((Zd7 _ _ _).trans (KeepsOthers.setCell _ _ _)).same D _ aZ rfl
   have aD:Below w.heap.size (w1.setCell ⟨I,J+2,none⟩ (.int .i64 (wrap64 (r+1)))) ((JdT w' (w.heap.size+1) (λi=> .int .u64 (z i))).setCell ⟨w.heap.size+1+1,0,none⟩ (.int .i64 0)):=(ad.trans (Xc6 (by omega))).setCell (p:=⟨w.heap.size+1+1,0,none⟩) (by show _≤_;simp;omega) _
   show bodyPostM _ _ _ _ R .ret _ ((JdT w' (w.heap.size+1) (λi=> .int .u64 (z i))).setCell ⟨w.heap.size+1+1,0,none⟩ (.int .i64 0))
   obtain ⟨w5,bc⟩: ∃w5,(JdT w' (w.heap.size+1) (λi=> .int .u64 (z i))).setCell ⟨w.heap.size+1+1,0,none⟩ (.int .i64 0)=w5:=⟨_,rfl⟩
   rw [bc] at ab aC ao aD ⊢
   refine ⟨by simp,.inl ⟨_,_,rfl,run_takeDeferred ao,?_⟩⟩
   have kept: ∀p v,w5.cell? p=some v→(w5.putObj D (.deferred none)).cell? p=some v:=λp v h=>cell_kept h (grownBy_putObj' _ D (.deferred none)) (λr e=>by cases e;exact ⟨_,ao,rfl⟩)
   have c5:=kept _ _ aC
   have y0:=kept _ _ (ab 0 (by decide))
   have y1:=kept _ _ (ab 1 (by decide))
   have y2:=kept _ _ (ab 2 (by decide))
   have y3:=kept _ _ (ab 3 (by decide))
   have y4:=kept _ _ (ab 4 (by decide))
   have y5:=kept _ _ (ab 5 (by decide))
   have y6:=kept _ _ (ab 6 (by decide))
   have y7:=kept _ _ (ab 7 (by decide))
   refine ⟨.tuple #[XfB (λi=> .int .u64 (z i)),.int .i64 0],?_,hR w1 _ af (by rw [w64];exact aD.trans (belowK_b (w:=w) (Nat.le_refl _) w5 D _ _ (by have:=U.out;omega) ao rfl rfl))⟩
   simp [results,Tryz.f194,go_sem,XfB,y0,y1,y2,y3,y4,y5,y6,y7,c5]
 case stop=>
  rintro D c ae W hD ⟨k,hk,rfl⟩ ⟨⟨rfl,⟨bg,q,e1,e2,e3,e4⟩,e5⟩,Q⟩ hK
  gi_wp2
  refine ⟨by simp,.inl ⟨_,_,rfl,run_takeDeferred hK,?_⟩⟩
  have kept: ∀p v,W.cell? p=some v→(W.putObj D (.deferred none)).cell? p=some v:=λp v h=>cell_kept h (grownBy_putObj' _ D (.deferred none)) (λr e=>by cases e;exact ⟨_,hK,rfl⟩)
  have c5:=kept _ _ e5
  have y0:=kept _ _ (e4 0 (by decide))
  have y1:=kept _ _ (e4 1 (by decide))
  have y2:=kept _ _ (e4 2 (by decide))
  have y3:=kept _ _ (e4 3 (by decide))
  have y4:=kept _ _ (e4 4 (by decide))
  have y5:=kept _ _ (e4 5 (by decide))
  have y6:=kept _ _ (e4 6 (by decide))
  have y7:=kept _ _ (e4 7 (by decide))
  obtain ⟨k',rfl⟩: ∃k',k=k'+1:=by
   cases k with
   | zero=>simp [XbC] at e1
   | succ k'=>exact ⟨k',rfl⟩
  rw [QcJ] at e1
  obtain ⟨rfl,e6⟩:=List.append_inj' e1 rfl
  obtain rfl:len-1-k'=q:=by simpa using e6
  refine ⟨.tuple #[XfB (E (len-1-k')),.int .i64 0],?_,an _ (by omega) e3 (λj h1 h2=>e2 j ?_) _ (Q.trans (belowK_b (w:=w) (Nat.le_refl _) W D _ _ (by have:=U.out;omega) hK rfl rfl))⟩
  ·simp [results,Tryz.f194,go_sem,XfB,y0,y1,y2,y3,y4,y5,y6,y7,c5]
  ·simp only [XbC,List.mem_map,List.mem_range]
   exact ⟨len-1-j,by omega,by omega⟩
theorem Zhu:Zhn Tryz.prog 194:=by
 intro b off V O Y so len cap a x L E w R hq Q ha J hL Z U j I
 exact (callsIn_wide (n:=7)).1 (QhG Fence.wide 7 ⟨trivial,trivial,trivial,trivial⟩ ⟨trivial,trivial,trivial,trivial⟩ rfl (Nat.le_refl _) b off V O Y so len cap a x L E w R hq Q ha J hL Z U j I)
end
section
open Go.RowKit
variable {g:G} {n:Nat}
def TT0:Zf9:=λf=>
 if f=317 then some (.slow [306,342])
 else   if f=325 then some (.ld .u32)
 else   if f=211 then some (.add .i64)
 else   if f=370 then some (.tab Jie)
 else   if f=194 then some (.look ZfY)
 else none
set_option maxRecDepth 1000000 in
set_option maxHeartbeats 4000000 in
theorem Qhl:XhS Tryz.prog TT0:=by
 intro f k h
 unfold TT0 at h
 split at h
 ·rename_i j;subst j;cases h
  refine ⟨⟨_,Tryz.func317,by kernel_rfl,by kernel_rfl⟩,?_⟩
  intro F E
  simp only [List.mem_cons,List.not_mem_nil,or_false] at E
  rcases E with rfl|rfl
  ·exact ⟨⟨_,Tryz.func306,by kernel_rfl,by kernel_rfl⟩,XgL⟩
  ·exact ⟨⟨_,Tryz.func342,by kernel_rfl,by kernel_rfl⟩,Jgt⟩
 ·split at h
  ·rename_i j;subst j;cases h
   exact ⟨_,Tryz.func325,by kernel_rfl,by kernel_rfl,by kernel_rfl,by kernel_rfl⟩
  ·split at h
   ·rename_i j;subst j;cases h
    exact ⟨_,Tryz.func211,by kernel_rfl,by kernel_rfl,by kernel_rfl,by kernel_rfl⟩
   ·split at h
    ·rename_i j;subst j;cases h
     exact QhI ⟨_,Tryz.func370,by kernel_rfl,by kernel_rfl,by kernel_rfl,by kernel_rfl⟩
    ·split at h
     ·rename_i j;subst j;cases h
      exact λargs g n K h=>Zha ⟨_,Tryz.func194,by kernel_rfl,by kernel_rfl⟩ Zhu h
     ·cases h
def Zho:Value:= .agg #[.int .i64 (-1),.int .i64 (-1),.int .i64 (-1),.int .i64 (-1),.int .i64 (-1),.int .i64 (-1),.int .i64 (-1),.int .i64 (-1),.int .i64 (-1),.int .i64 (-1),.int .i64 (-1),.int .i64 (-1),.int .i64 (-1),.int .i64 (-1),.int .i64 (-1),.int .i64 (-1),.int .i64 (-1),.int .i64 (-1),.int .i64 (-1),.int .i64 (-1),.int .i64 (-1),.int .i64 (-1),.int .i64 (-1),.int .i64 (-1),.int .i64 (-1),.int .i64 (-1),.int .i64 (-1),.int .i64 (-1),.int .i64 (-1),.int .i64 (-1),.int .i64 (-1),.int .i64 (-1),.int .i64 (-1),.int .i64 (-1),.int .i64 (-1),.int .i64 (-1),.int .i64 (-1),.int .i64 (-1),.int .i64 (-1),.int .i64 (-1),.int .i64 (-1),.int .i64 (-1),.int .i64 (-1),.int .i64 (-1),.int .i64 (-1),.int .i64 (-1),.int .i64 (-1),.int .i64 (-1),.int .i64 (-1),.int .i64 (-1),.int .i64 (-1),.int .i64 (-1),.int .i64 (-1),.int .i64 (-1),.int .i64 (-1),.int .i64 (-1),.int .i64 (-1),.int .i64 (-1),.int .i64 (-1),.int .i64 (-1),.int .i64 (-1),.int .i64 (-1),.int .i64 (-1),.int .i64 (-1),.int .i64 (-1),.int .i64 (-1),.int .i64 (-1),.int .i64 (-1),.int .i64 (-1),.int .i64 (-1),.int .i64 (-1),.int .i64 (-1),.int .i64 (-1),.int .i64 (-1),.int .i64 (-1),.int .i64 (-1),.int .i64 (-1),.int .i64 (-1),.int .i64 (-1),.int .i64 (-1),.int .i64 (-1),.int .i64 (-1),.int .i64 (-1),.int .i64 (-1),.int .i64 (1),.int .i64 (-1),.int .i64 (-1),.int .i64 (-1),.int .i64 (-1),.int .i64 (-1),.int .i64 (-1),.int .i64 (-1),.int .i64 (-1),.int .i64 (-1),.int .i64 (2),.int .i64 (-1),.int .i64 (-1),.int .i64 (-1),.int .i64 (-1),.int .i64 (-1),.int .i64 (-1),.int .i64 (-1),.int .i64 (-1),.int .i64 (-1),.int .i64 (-1),.int .i64 (2),.int .i64 (2),.int .i64 (-1),.int .i64 (-1),.int .i64 (-1),.int .i64 (-1),.int .i64 (-1),.int .i64 (-1),.int .i64 (-1),.int .i64 (-1),.int .i64 (-1),.int .i64 (-1),.int .i64 (0),.int .i64 (0),.int .i64 (0),.int .i64 (-1),.int .i64 (0),.int .i64 (0),.int .i64 (0),.int .i64 (-1),.int .i64 (-1),.int .i64 (5),.int .i64 (8),.int .i64 (-1),.int .i64 (8),.int .i64 (-1),.int .i64 (-1),.int .i64 (1),.int .i64 (1),.int .i64 (-1),.int .i64 (-1),.int .i64 (-1),.int .i64 (8),.int .i64 (-1),.int .i64 (8),.int .i64 (-2),.int .i64 (-2),.int .i64 (-2),.int .i64 (-2),.int .i64 (-2),.int .i64 (-2),.int .i64 (-2),.int .i64 (-2),.int .i64 (-2),.int .i64 (-2)]
set_option maxRecDepth 1000000 in
set_option maxHeartbeats 4000000 in
theorem Qhc:Jy Tryz.prog (HT TT0) 1000 100 200 [] .nil 0 (λj _ _=>Zaz j Zho)=true:=by kernel_rfl
def TT:Zf9:=λf=>if f=200 then some (.tab (Jii Zho)) else TT0 f
set_option maxRecDepth 1000000 in
set_option maxHeartbeats 4000000 in
theorem Xic:XhS Tryz.prog TT:=by
 intro f k h
 unfold TT at h
 split at h
 ·rename_i E;subst E;cases h
  intro args v g n K j I
  obtain ⟨rfl,rfl⟩:=Jg8 j
  exact Qhe (λB=>ZdM (by kernel_rfl) B) Qhl 1000 100 rfl rfl Qhc I
 ·exact Qhl f k h
abbrev AC:CT:=ACalls Tryz.prog (XP Tryz.prog TT)
theorem Xb:Qep (XP Tryz.prog TT):=QhJ _
theorem QfX {f:FuncId} {args:List Value} {K:Cont} (v:Value) (j depth:Nat) (Q:plain 3 v=true) (O:args.all (plain 3)=true) (E:Jy Tryz.prog (HT TT) j depth f args .nil 0 (λI _ _=>Zaz I v)=true) (U: ∀n',K v g n'):AC f args g n K:=
 λC J=>J.2 _ _ _ _ _ (.inr ⟨v,j,depth,Q,O,E,U⟩)
theorem Qfj {args:List Value} {K:Cont} (h:Zer AC [306,342] args g n K):AC 317 args g n K:=ACalls.foreign Xb (.inl h)
theorem XdK {args:List Value} {K:Cont} (h:XcY .u32 args g n K):AC 325 args g n K:=ACalls.foreign Xb (.inl h)
theorem Qei {args:List Value} {K:Cont} (h:Zej .i64 args g n K):AC 211 args g n K:=ACalls.foreign Xb (.inl h)
theorem XgO {args:List Value} {K:Cont} (h:ZdQ ZfY args g n K):AC 194 args g n K:=ACalls.foreign Xb (.inl h)
theorem Ze {b:Bool} {A B:Prop} (h:b=true) (k:A):Qa (.bool b) A B:=by subst h;exact k
theorem Jc {b:Bool} {A B:Prop} (h:b=false) (k:B):Qa (.bool b) A B:=by subst h;exact k
theorem take_add {α:Type} {xs:List α} {i:Nat} {x:α} (h:xs[i]? =some x):xs.take (i+1)=xs.take i++[x]:=by rw [List.take_add_one,h];rfl
theorem JbM {α:Type} {xs:List α} {i:Nat} {x:α} (h:xs[i]? =some x):xs.drop i=x::xs.drop (i+1):=by
 rw [List.drop_eq_getElem?_toList_append,h];rfl
def Xev (o:Option Nat):Value:=match o with|some i=> .int .i64 (i:Nat)|none=> .int .i64 (-1)
theorem Jdi {α:Type} {p:α→Bool} {xs:List α} {i:Nat} (h: ∀x∈xs.take i,p x=false):(xs.take i).filter (λx=> !p x)=xs.take i:=by
 rw [List.filter_eq_self];intro x hx;simp [h x hx]
abbrev Ln:={ w:List Int // w.length=8 }
def Zq (l:Ln):List Value:=l.1.map (.int .u64 ·)
theorem Je (l:Ln):(Zq l).length=8:=by simp [Zq,l.2]
theorem ZM (l:Ln): ∀v∈Zq l,isCell v=true:=by simp [Zq,isCell]
def zeroL:Ln:=⟨[0,0,0,0,0,0,0,0],rfl⟩
def Ln.put (l:Ln) (w:Nat) (v:Int):Ln:=⟨l.1.set w v,by simp [l.2]⟩
theorem XcF {k:IntKind}: ∀(xs ys:List Int),xs.length=ys.length→Zo (List.replicate xs.length .i) (xs.map (.int k ·)) (ys.map (.int k ·))=some (decide (xs=ys))
 | [],[],_=>rfl
 | [],_::_,h=>by simp at h
 | _::_,[],h=>by simp at h
 | x::xs,y::ys,h=>by
  have j:=XcF (k:=k) xs ys (by simpa using h)
  simp only [List.length_cons,List.replicate_succ,List.map_cons,Zo,QcO,if_true,j,Option.some.injEq]
  rw [Bool.eq_iff_iff];simp
theorem eqL (a b:Ln) (K:Value→Prop) (h:K (.bool (decide (a=b)))):Jb (.agg [.i,.i,.i,.i,.i,.i,.i,.i]) .eql (.agg (Zq a).toArray) (.agg (Zq b).toArray) K:=by
 have e:=XcF (k:= .u64) a.1 b.1 (by rw [a.2,b.2])
 rw [a.2] at e
 have j:Zo [.i,.i,.i,.i,.i,.i,.i,.i] (Zq a) (Zq b)=some (decide (a=b)):=by
  have:(decide (a=b))=decide (a.1=b.1):=by rw [Bool.eq_iff_iff];simp [Subtype.ext_iff]
  rw [this];exact e
 show (match Zo [.i,.i,.i,.i,.i,.i,.i,.i] (Zq a) (Zq b) with|some r=>Qev .eql r K|none=>False)
 rw [j]
 exact h
theorem Jw {cs vs:List Value} (h:vs.length=cs.length):splice cs 0 vs=vs:=by simp [splice,h]
theorem Xew {α:Type} {p:α→Bool} {xs:List α} {i:Nat} {x:α} (he:xs[i]? =some x) (hp:p x=true) (hb: ∀y∈xs.take i,p y=false):xs.findIdx? p=some i:=by
 have E:=Xg he
 rw [List.findIdx?_eq_some_iff_getElem]
 refine ⟨E,?_,λj I=> ?_⟩
 ·rw [List.getElem?_eq_getElem E] at he;cases he;exact hp
 ·have:=hb xs[j] (List.mem_of_getElem? (i:=j) (by rw [List.getElem?_take,if_pos I,List.getElem?_eq_getElem]))
  simp [this]
theorem ldL {l:Nat} {x:Ln} {bk:BK} {K:List Value→Prop} (h:g l=some (.cells (Zq x) bk)) (k:K (Zq x)):Ql g l 0 8 K:=by
 refine Jt h (by rw [Je];decide) ?_
 rw [List.drop_zero,List.take_of_length_le (by rw [Je];exact Nat.le_refl _)];exact k
end
section
open Go.RowKit
variable {g:G} {n:Nat}
structure St where
 state:Int
 line:Int
 data:Ln
 used:Int
 deriving DecidableEq
def encS (s:St):List Value:=[.int .i64 s.state,.int .i64 s.line]++Zq s.data++[.int .i64 s.used]
theorem Qh (s:St):(encS s).length=11:=by simp [encS,Je]
theorem Zar (s:St): ∀v∈encS s,isCell v=true:=by
 intro v j
 simp only [encS,List.mem_append,List.mem_cons,List.not_mem_nil,or_false] at j
 rcases j with ((rfl|rfl)|h)|rfl
 ·rfl
 ·rfl
 ·exact ZM _ v h
 ·rfl
theorem ldS {l:Nat} {x:St} {bk:BK} {K:List Value→Prop} (h:g l=some (.cells (encS x) bk)) (k:K (encS x)):Ql g l 0 11 K:=by
 refine Jt h (by rw [Qh];decide) ?_
 rw [List.drop_zero,List.take_of_length_le (by rw [Qh];exact Nat.le_refl _)];exact k
def XaR:St:=⟨0,0,zeroL,0⟩
theorem Jfs (s:St):(encS s)[0]? =some (.int .i64 s.state):=rfl
theorem Zgk (s:St):(encS s)[1]? =some (.int .i64 s.line):=rfl
theorem QhH (s:St):(encS s)[10]? =some (.int .i64 s.used):=by
 unfold encS
 rw [List.getElem?_append_right (by simp [Je])]
 simp [Je]
structure Arr where
 sets:Nat
 ways:Nat
 l:List St
 used:Int
 deriving DecidableEq
def Arr.ok (A:Arr):Prop:=(A.sets=1∨A.sets=2∨A.sets=4∨A.sets=8)∧1≤A.ways∧A.ways≤8∧A.l.length=A.sets*A.ways∧0≤A.used∧A.used<1000000
def XhU (A:Arr) (ls:Nat):List Value:=[.int .i64 A.sets,.int .i64 A.ways,.slice (some ⟨ls,0,none⟩) (A.sets*A.ways) (A.sets*A.ways),.int .i64 A.used]
structure ArrH (g:G) (la ls:Nat) (A:Arr):Prop where
 obj:g la=some (.cells (XhU A ls) .exact)
 row:Blk1 encS g ls A.l .exact
 ne:la≠ls
theorem ArrH.mono {g g':G} {la ls:Nat} {A:Arr} (h:ArrH g la ls A) (hs:Sub g g'):ArrH g' la ls A:=⟨hs.live h.obj,h.row.mono hs,h.ne⟩
theorem XeP {sets line:Int} (hs:sets=1∨sets=2∨sets=4∨sets=8) (E:0≤line) {K:Cont} (O: ∀n',K (.int .i64 (line%sets)) g n'):AC ZcC [.int .i64 sets,.int .i64 line] g n K:=by
 refine ACalls.fold Xb ?_
 rw [←QeY]
 simp only [Jfx,Xk,Jq]
 refine Jc (by simpa using E) ?_
 have j: ∀(t:Env) (n:Nat),t 8= .bool true→t 0= .int .i64 sets→t 1= .int .i64 line→XaS AC K t g n:=by
  intro t n J I Q
  simp only [XaS,J,I,Q,Zck]
  refine ⟨by omega,Ja (Sub.refl _) ?_⟩
  rw [Int.tmod_eq_emod_of_nonneg E]
  exact O _
 rcases hs with rfl|rfl|rfl|rfl
 ·exact Ze rfl (j _ _ rfl rfl rfl)
 ·exact Jc rfl (Ze rfl (j _ _ rfl rfl rfl))
 ·exact Jc rfl (Jc rfl (Ze rfl (j _ _ rfl rfl rfl)))
 ·exact Jc rfl (Jc rfl (Jc rfl (j _ _ rfl rfl rfl)))
theorem Xe6 {l c z i j:Nat} {K:Value→Prop} (hc:c<LC) (E:i<j) (I:j≤c) (k:K (.slice (some ⟨l,i*z,none⟩) (j-i) (j-i))):
  Xx (.slice (some ⟨l,0,none⟩) c c) (some (.int .i64 (i:Nat))) (some (.int .i64 (j:Nat))) (some (.int .i64 (j:Nat))) z K:=by
 simp only [Xx,if_pos hc,ZW,QbG]
 refine ⟨by omega,by omega,by omega,by omega,by omega,by omega,?_⟩
 simp only [Int.toNat_natCast]
 rw [if_neg (by omega)]
 simp only [Option.map_some,Qc7,Nat.zero_add]
 exact k
def Arr.from (A:Arr) (line:Int):Nat:=(line%A.sets).toNat*A.ways
theorem Arr.from_le {A:Arr} (h:A.ok) {line:Int} (I:0≤line):A.from line+A.ways≤A.sets*A.ways:=by
 obtain ⟨hs,E,_⟩:=h
 have j:(line%A.sets).toNat+1≤A.sets:=by
  have:line%(A.sets:Int)<A.sets:=Int.emod_lt_of_pos _ (by omega)
  have:0≤line%(A.sets:Int):=Int.emod_nonneg _ (by omega)
  omega
 have:=Nat.mul_le_mul_right A.ways j
 rw [Nat.add_mul,Nat.one_mul] at this
 exact this
theorem Arr.small {A:Arr} (h:A.ok):A.sets*A.ways≤64:=by
 obtain ⟨hs,E,j,_⟩:=h
 have:=Nat.mul_le_mul (show A.sets≤8 by omega) j
 omega
def Qhz (ls:Nat) (A:Arr) (line:Int):Value:= .slice (some ⟨ls,A.from line*11,none⟩) A.ways A.ways
theorem Xcn {A:Arr} {la ls:Nat} {line:Int} (j:A.ok) (E:ArrH g la ls A) (J:0≤line) {K:Cont} (U: ∀n',K (Qhz ls A line) g n'):AC ZB [ptr la 0,.int .i64 line] g n K:=by
 refine ACalls.fold Xb ?_
 rw [←JcO]
 simp only [Qb9,Qd,Qb,Nat.zero_add]
 have Y:=Arr.from_le j J
 have Q:=Arr.small j
 refine Zb E.obj rfl ?_
 refine Zb E.obj rfl ?_
 refine XeP (by have:=j.1;omega) J (λn1=> ?_)
 refine ⟨rfl,?_⟩
 have I:0≤line%(A.sets:Int):=Int.emod_nonneg _ (by have:=j.1;omega)
 have e1:(line%(A.sets:Int))*(A.ways:Int)=(A.from line:Int):=by unfold Arr.from;rw [Int.natCast_mul,Int.toNat_of_nonneg I]
 have O:=j.2.2.1
 simp only [Xeo]
 rw [e1,Qg (by omega) (by omega)]
 refine Zb E.obj rfl ?_
 refine Zb E.obj rfl ?_
 simp only [Jf]
 rw [Qg (by omega) (by omega)]
 refine Zb E.obj rfl ?_
 simp only [Jf]
 rw [Qg (by omega) (by omega),show (A.from line:Int)+(A.ways:Int)=((A.from line+A.ways:Nat):Int) by omega]
 have V:=j.2.1
 refine Xe6 (by have:LC=4611686018427387904:=rfl;omega) (by omega) Y (Ja (Sub.refl _) ?_)
 rw [show A.from line+A.ways-A.from line=A.ways by omega]
 exact U _
end
section
open Go.RowKit
variable {g:G} {n:Nat}
theorem Zaf {v such:Value} (p:St→Bool) {xs:List St} (hv:Sl encS 11 g v xs)
  (E: ∀(g':G) (n':Nat) (e:St) (K:Cont),Sub g g'→(∀n,K (.bool (p e)) g' n)→Qbu AC such [.agg (encS e).toArray] g' n' K)
  (V:xs.length<1000000) {K:Cont} (Z: ∀n',K (Xev (xs.findIdx? p)) g n'):AC Jh [v,such] g n K:=by
 refine ACalls.fold Xb ?_
 rw [←Zak]
 simp only [ZO]
 refine hv.len ?_
 refine XA (λm t g' n'=>g'=g∧ ∃i:Nat,m=xs.length-i∧i≤xs.length∧t 0=v∧t 1=such∧t 7= .int .i64 xs.length∧t 8= .int .i64 i∧(∀x∈xs.take i,p x=false)) ?_
  (m:=xs.length) ⟨rfl,0,by simp,by simp,rfl,rfl,rfl,rfl,by simp⟩
 rintro I m t g1 n1 hI ⟨rfl,i,hm,hi,U,Y,h7,h8,hp⟩
 simp only [XH,U,Y,h7,h8,Xk,Zi,decide_eq_true_eq,decide_eq_false_iff_not]
 refine ⟨λO=> ?_,λaa=> ?_⟩
 ·have O:i<xs.length:=by omega
  have he:xs[i]? =some xs[i]:=List.getElem?_eq_getElem O
  have ab:xs[i]=xs[i]:=rfl
  generalize hx:xs[i]=e at he
  refine hv.idx Qh he (λl o ha=> ?_)
  simp only [Qb]
  refine ha.ldN (Qh e).symm ?_
  refine E _ _ _ _ (Sub.refl _) (λn2=> ?_)
  simp only [Zi,Jf]
  refine ⟨λJ=>Ja (Sub.refl _) ?_,λJ=> ?_⟩
  ·have:xs.findIdx? p=some i:=by
    rw [List.findIdx?_eq_some_iff_getElem]
    refine ⟨O,by rw [hx];exact J,λj hj=> ?_⟩
    have:=hp xs[j] (List.mem_of_getElem? (i:=j) (by rw [List.getElem?_take,if_pos hj,List.getElem?_eq_getElem]))
    simp [this]
   have:=Z n2
   rw [‹xs.findIdx? p=some i›] at this
   exact this
  ·rw [JL (by omega)]
   refine hI (xs.length-(i+1)) _ _ _ (by omega) ⟨rfl,i+1,rfl,by omega,U,Y,h7,rfl,?_⟩
   intro x Q
   rw [take_add he] at Q
   rcases List.mem_append.1 Q with h|h
   ·exact hp x h
   ·simp at h;subst h;exact J
 ·have:i=xs.length:=by omega
  subst this
  rw [List.take_length] at hp
  have h:xs.findIdx? p=none:=by rw [List.findIdx?_eq_none_iff];exact hp
  have:=Z n1
  rw [h] at this
  exact Ja (Sub.refl _) this
theorem Qcf {g0:G} {v such:Value} (p:St→Bool) {xs:List St} (hv:OwnS encS 11 g0 g v xs) (ab:Sub g0 g)
  (Z: ∀(g':G) (n':Nat) (e:St) (K:Cont),Sub g0 g'→(∀n,K (.bool (p e)) g' n)→Qbu AC such [.agg (encS e).toArray] g' n' K)
  (an:xs.length<1000000) {K:Cont} (hK: ∀v' g' n',Sub g0 g'→Sl encS 11 g' v' (xs.filter λe=> !p e)→(xs≠[]→ ∀l,X4 v'=some l→g0 l=none)→K v' g' n'):AC Xu [v,such] g n K:=by
 refine ACalls.fold Xb ?_
 rw [←Qai]
 simp only [ZL]
 refine Zaf p hv.sl (λg' n' e K hs=>Z g' n' e K (ab.trans hs)) an (λn1=> ?_)
 cases hidx:xs.findIdx? p with
 | none=>
  rw [List.findIdx?_eq_none_iff] at hidx
  simp only [Xev,Jq]
  refine Ze rfl (Ja (Sub.refl _) (hK _ _ _ ab ?_ (λay l' ad=> ?_)))
  rotate_left
  ·rcases hv with ⟨h,_⟩|⟨lc,c,bk,rfl,_,h0,_⟩
   ·exact absurd (List.eq_nil_of_length_eq_zero h) ay
   ·cases ad;exact h0
  have:xs.filter (λe=> !p e)=xs:=by rw [List.filter_eq_self];intro x hx;simp [hidx x hx]
  rw [this];exact hv.sl
 | some i0=>
  rw [List.findIdx?_eq_some_iff_getElem] at hidx
  obtain ⟨aj,aA,hbefore⟩:=hidx
  rcases hv with ⟨h,_⟩|⟨l,c,bk,rfl,hg,h0,hl,ah⟩
  ·exact absurd aj (by omega)
  have al:bk.rw=true:=by rcases ah with ⟨_,rfl,_⟩|⟨_,rfl⟩<;>rfl
  simp only [Xev,Jq,Jf]
  refine Jc (by simp) ?_
  rw [JL (by omega)]
  have hi0e:xs[i0]? =some xs[i0]:=List.getElem?_eq_getElem aj
  have ax: ∀x∈xs.take i0,p x=false:=by
   intro x hx
   obtain ⟨j,hj⟩:=List.getElem?_of_mem hx
   rw [List.getElem?_take] at hj
   split at hj
   ·rename_i aq
    have:=hbefore j aq
    rw [List.getElem?_eq_getElem (by omega)] at hj
    cases hj
    simpa using this
   ·cases hj
  have ae:(xs.take (i0+1)).filter (λe=> !p e)=xs.take i0:=by rw [take_add hi0e,List.filter_append,Jdi ax];simp [aA]
  have aa:(xs.take i0).length=i0:=by rw [List.length_take];omega
  refine XA (λm t g' n'=>Sub g0 g'∧ ∃(j:Nat) (ys:List St),m=xs.length-j∧j≤xs.length∧t 0= .slice (some ⟨l,0,none⟩) xs.length c∧t 1=such∧
    t 5= .int .i64 (((xs.take j).filter λe=> !p e).length:Nat)∧t 6= .int .i64 j∧ys.length=xs.length∧Blk1 encS g' l ys bk∧((xs.take j).filter λe=> !p e).length<j∧
    ys.take ((xs.take j).filter λe=> !p e).length=(xs.take j).filter (λe=> !p e)∧ys.drop j=xs.drop j) ?_
   (m:=xs.length-(i0+1)) ⟨ab,i0+1,xs,rfl,by omega,rfl,rfl,?_,rfl,rfl,hg,?_,?_,rfl⟩
  ·rintro I m t g1 n2 hI ⟨V,j,ys,hm,hj,t0,t1,t5,t6,E,hb,av,Y,af⟩
   simp only [XG,t0,t1,t5,t6,XbU,Xk,Zi,decide_eq_true_eq,decide_eq_false_iff_not]
   refine ⟨λam=> ?_,λaB=> ?_⟩
   ·have am:j<xs.length:=by omega
    have he:xs[j]? =some xs[j]:=List.getElem?_eq_getElem am
    generalize xs[j]=e at he
    have ak:ys[j]? =some e:=by
     have U:=JbM he
     rw [←af] at U
     have:(ys.drop j)[0]? =some e:=by rw [U];rfl
     simpa using this
    have ai:ys.drop (j+1)=xs.drop (j+1):=by
     have U:=JbM he
     rw [←af,JbM ak] at U
     exact (List.cons.inj U).2
    refine Zr (by omega) (by omega) ?_
    simp only [Qb,Int.toNat_natCast,Nat.zero_add]
    refine hb.ldN Qh ak ?_
    intro ao
    simp only [Xe]
    refine ⟨Qh e,Xt (Xa _ _ _) rfl (by rw [Qh];decide) (Zar e) ?_⟩
    have Q:Sub g1 _:=(((Sub.refl g1).new ao (some (.cells [(.int .i64 0),(.int .i64 0),(.int .u64 0),(.int .u64 0),(.int .u64 0),(.int .u64 0),(.int .u64 0),(.int .u64 0),(.int .u64 0),(.int .u64 0),(.int .i64 0)] .exact))).upd_fresh (some (.cells (encS e) .exact)) ao)
    have au:(upd (upd g1 n2 (some (.cells [(.int .i64 0),(.int .i64 0),(.int .u64 0),(.int .u64 0),(.int .u64 0),(.int .u64 0),(.int .u64 0),(.int .u64 0),(.int .u64 0),(.int .u64 0),(.int .i64 0)] .exact))) n2 (some (.cells (encS e) .exact))) n2=some (.cells (encS e) .exact):=Xa _ _ _
    rw [Jw (cs:=[(.int .i64 0),(.int .i64 0),(.int .u64 0),(.int .u64 0),(.int .u64 0),(.int .u64 0),(.int .u64 0),(.int .u64 0),(.int .u64 0),(.int .u64 0),(.int .i64 0)]) (vs:=encS e) (by rw [Qh];rfl)]
    refine ldS (Xa _ _ _) ?_
    refine Z _ _ e _ (V.trans Q) (λn3=> ?_)
    simp only [JG,Zi,Jf]
    have next: ∀(t:Env) (g4:G) (n1:Nat) (O:List St),Sub g0 g4→t 0= .slice (some ⟨l,0,none⟩) xs.length c→t 1=such→t 5= .int .i64 (((xs.take (j+1)).filter λe=> !p e).length:Nat)→t 6= .int .i64 j→O.length=xs.length→Blk1 encS g4 l O bk→
      ((xs.take (j+1)).filter λe=> !p e).length<j+1→O.take ((xs.take (j+1)).filter λe=> !p e).length=(xs.take (j+1)).filter (λe=> !p e)→O.drop (j+1)=xs.drop (j+1)→Qo AC K I t g4 n1:=by
     intro t g4 n1 O hs t0 t1 t5 t6 U h2 h3 h4 h5
     simp only [Qo,t6,Jf]
     rw [JL (by omega)]
     exact hI (xs.length-(j+1)) _ _ _ (by omega) ⟨hs,j+1,O,rfl,by omega,t0,t1,t5,rfl,U,h2,h3,h4,h5⟩
    refine ⟨λJ=> ?_,λJ=> ?_⟩
    ·have J:p e=false:=by simpa using J
     have hf:(xs.take (j+1)).filter (λe=> !p e)=(xs.take j).filter (λe=> !p e)++[e]:=by rw [take_add he];simp [J]
     refine ldS au ?_
     refine Zr (by omega) (by omega) ?_
     simp only [Qb,Xe,Int.toNat_natCast,Nat.zero_add]
     refine ⟨Qh e,(hb.mono Q).stN (i:=((xs.take j).filter λe=> !p e).length) (y:=e) Qh Zar al (by omega) (λaw=> ?_)⟩
     rw [JL (by omega)]
     refine next _ _ _ (ys.set ((xs.take j).filter λe=> !p e).length e) ((V.trans Q).upd_fresh _ h0) t0 t1 ?_ t6 (by simpa using E) aw (by rw [hf];simp;omega) ?_ ?_
     ·show Value.int .i64 _=_
      rw [hf];simp
     ·rw [hf,List.length_append,List.length_singleton,QeM (by omega),Y]
     ·rw [List.drop_set,if_pos (by omega)];exact ai
    ·have J:p e=true:=by simpa using J
     have hf:(xs.take (j+1)).filter (λe=> !p e)=(xs.take j).filter (λe=> !p e):=by rw [take_add he];simp [J]
     exact next _ _ _ ys (V.trans Q) t0 t1 (by rw [hf];exact t5) t6 E (hb.mono Q) (by rw [hf];omega) (by rw [hf];exact Y) ai
   ·have az:j=xs.length:=by omega
    subst az
    rw [List.take_length] at av Y t5
    simp only [QG]
    show Xx (t 0) (some (t 5)) none none 11 _
    rw [t0,t5]
    have ap:(c<LC∧xs.length≤c)∨c=LC+11:=by rcases ah with ⟨U,_,h2⟩|⟨U,_⟩<;>omega
    refine Zbh ap (by omega) (λo' c' ho=> ?_)
    rw [←E]
    have ac: ∀(g4:G) (O:List St),Sub g0 g4→O.take (xs.filter λe=> !p e).length=xs.filter (λe=> !p e)→O.length=ys.length→Blk1 encS g4 l O bk→Xx (puts t [(16,.int .i64 xs.length),(17,.slice (some ⟨l,0,none⟩) ys.length c),(18,.int .i64 ys.length),(19,.bool (decide ((xs.length:Int)<(ys.length:Int))))] 0) none (some (puts t [(16,.int .i64 xs.length),(17,.slice (some ⟨l,0,none⟩) ys.length c),(18,.int .i64 ys.length),(19,.bool (decide ((xs.length:Int)<(ys.length:Int))))] 5)) none 11 λar=>Zc K ar g4 n2:=by
     intro g4 O hs hz hl hb
     show Xx (t 0) none (some (t 5)) none 11 _
     rw [t0,t5]
     refine Zcb ap (by omega) (Ja (Sub.refl _) (hK _ _ _ hs ?_ (λ_ l' ad=>by cases ad;exact h0)))
     have:=hb.sl (i:=0) (m:=(xs.filter λe=> !p e).length) (c:=c) Qh (by omega)
     rw [Nat.zero_mul,List.drop_zero,hz] at this
     exact this
    rw [E]
    rw [E] at ac
    rw [show xs.length-(xs.filter λe=> !p e).length=ys.length-(xs.filter λe=> !p e).length by rw [E]]
    refine Blk1.clear (y:=XaR) Qh Zar hb al (by omega) (λh=>ho (by omega)) (λh=>ac _ ys V Y E hb) (λO U h2 h3=>ac _ O (V.upd_fresh _ h0) (by rw [U];exact Y) (by omega) h3)
  ·show Value.int .i64 _=_
   rw [ae,aa]
  ·rw [ae,aa];omega
  ·rw [ae,aa]
end
section
open Go.RowKit
variable {g:G} {n:Nat}
def Arr.part (A:Arr) (line:Int):List St:=(A.l.drop (A.from line)).take A.ways
def Arr.at (A:Arr) (line:Int):Option Nat:=if line<0 then none else (A.part line).findIdx? λs=>decide (s.state≠0)&&decide (s.line=line)
def Arr.free (A:Arr) (line:Int):Option Nat:=(A.part line).findIdx? λs=>decide (s.state=0)
def Arr.put (A:Arr) (line:Int) (k:Nat) (s:St):Arr:={ A with l:=A.l.set (A.from line+k) s }
def Arr.tick (A:Arr):Arr:={ A with used:=A.used+1 }
def Arr.set (A:Arr) (line state:Int) (d:Ln):Int×Arr:=
 if line<0∨state<1∨9<state then (1,A) else
 match (A.at line).or (A.free line) with
 | none=>(13,A)
 | some k=>(0,A.tick.put line k ⟨state,line,d,A.used+1⟩)
def Arr.slotAt (A:Arr) (line:Int) (k:Nat):St:=A.l.getD (A.from line+k) XaR
def Arr.touch (A:Arr) (line:Int):Arr:=match A.at line with
 | none=>A
 | some k=>A.tick.put line k { A.slotAt line k with used:=A.used+1 }
def Arr.drop (A:Arr) (line:Int):Arr:=match A.at line with
 | none=>A
 | some k=>A.put line k XaR
def Arr.find (A:Arr) (line:Int):St×Bool:=match A.at line with
 | none=>(XaR,false)
 | some k=>(A.slotAt line k,true)
def JaX:List St→Int→Int→Bool×Int
 | [],v,_=>(false,v)
 | s::l,v,last=>if s.state=0 then (true,-1) else
  if 1≤s.state∧s.state≤3∧(v<0∨s.used<last) then JaX l s.line s.used else JaX l v last
def Arr.room (A:Arr) (line:Int):Bool×Int:=if line<0 then (false,-1) else JaX (A.part line) (-1) 0
def Arr.slots (A:Arr):List St:=A.l.filter λs=> !decide (s.state=0)
theorem Arr.part_len {A:Arr} (h:A.ok) {line:Int} (j:0≤line):(A.part line).length=A.ways:=by
 have E:=Arr.from_le h j
 have I:=h.2.2.2.1
 unfold Arr.part
 rw [List.length_take,List.length_drop];omega
theorem Arr.part_get {A:Arr} (h:A.ok) {line:Int} (E:0≤line) {k:Nat} (j:k<A.ways):(A.part line)[k]? =some (A.slotAt line k):=by
 have I:=Arr.from_le h E
 have J:=h.2.2.2.1
 unfold Arr.part Arr.slotAt
 rw [List.getElem?_take,if_pos j,List.getElem?_drop,List.getD_eq_getElem?_getD,List.getElem?_eq_getElem (by omega)];rfl
theorem Arr.at_lt {A:Arr} (h:A.ok) {line:Int} {k:Nat} (j:A.at line=some k):0≤line∧k<A.ways:=by
 unfold Arr.at at j
 split at j
 ·cases j
 ·have:=List.findIdx?_eq_some_iff_getElem.1 j
  obtain ⟨E,_⟩:=this
  rw [Arr.part_len h (by omega)] at E
  exact ⟨by omega,E⟩
theorem Arr.free_lt {A:Arr} (h:A.ok) {line:Int} (I:0≤line) {k:Nat} (E:A.free line=some k):k<A.ways:=by
 obtain ⟨j,_⟩:=List.findIdx?_eq_some_iff_getElem.1 E
 rw [Arr.part_len h I] at j
 exact j
theorem Arr.put_ok {A:Arr} (h:A.ok) (line:Int) (k:Nat) (s:St):(A.put line k s).ok:=by
 obtain ⟨I,O,j,J,E⟩:=h
 exact ⟨I,O,j,by simp [Arr.put,J],E⟩
theorem Jg5 {l3:Nat} {e:St} {line:Int} (E:g l3=some (.cells [.int .i64 line] .exact)) {K:Cont} (j: ∀n',K (.bool (decide (e.state≠0)&&decide (e.line=line))) g n'):
  AC XaG [.agg (encS e).toArray,ptr l3 0] g n K:=by
 refine ACalls.fold Xb ?_
 rw [←QcG]
 simp only [XbX,Xe]
 intro I
 have hs:=(Sub.refl g).new I (some (.cells (encS e) .exact))
 refine Zb (Xa _ _ _) (Jfs e) ?_
 simp only [Jal,Zi,decide_eq_true_eq,decide_eq_false_iff_not,Qb]
 refine ⟨λh=> ?_,λh=> ?_⟩
 ·refine Zb (Xa _ _ _) (Zgk e) ?_
  refine Zb (hs.live E) rfl ?_
  simp only [Jq]
  refine Ja hs ?_
  have:=j n
  rw [decide_eq_true h,Bool.true_and] at this
  exact j _ |> λk=>by rw [decide_eq_true h,Bool.true_and] at k;exact k
 ·exact Ja hs (by have k:=j (n+1);rw [decide_eq_false h,Bool.false_and] at k;exact k)
theorem Zea {e:St} {K:Cont} (E: ∀n',K (.bool (decide (e.state=0))) g n'):AC XaX [.agg (encS e).toArray] g n K:=by
 refine ACalls.fold Xb ?_
 rw [←JdR]
 simp only [XdJ,Xe]
 intro j
 refine Zb (Xa _ _ _) (Jfs e) ?_
 simp only [Jq]
 exact Ja ((Sub.refl g).new j _) (E _)
theorem Zes {A:Arr} {la ls:Nat} {line:Int} (j:A.ok) (E:ArrH g la ls A) (J:0≤line):Sl encS 11 g (Qhz ls A line) (A.part line):=by
 have I:=Arr.from_le j J
 exact E.row.sl Qh (by rw [j.2.2.2.1];exact I)
theorem Jel {A:Arr} {la ls:Nat} {line:Int} (j:A.ok) (O:ArrH g la ls A) {K:Cont} (Q: ∀n',K (Xev (A.at line)) g n'):AC JW [ptr la 0,.int .i64 line] g n K:=by
 refine ACalls.fold Xb ?_
 rw [←Qc8]
 simp only [Qcu]
 refine ⟨rfl,?_⟩
 intro U
 have hs:=(Sub.refl g).new U (some (.cells [.int .i64 line] .exact))
 have E:=Xa g n (some (.cells [.int .i64 line] .exact))
 generalize upd g n (some (.cells [.int .i64 line] .exact))=V at*
 simp only [Zv]
 refine Jc rfl (Zb E rfl ?_)
 simp only [Xk,Zi,decide_eq_true_eq,decide_eq_false_iff_not]
 refine ⟨λh=>Ja hs ?_,λh=> ?_⟩
 ·have:=Q (n+1)
  unfold Arr.at at this
  rw [if_pos h] at this
  exact this
 ·refine Zb E rfl ?_
  refine Xcn j (O.mono hs) (by omega) (λn2=> ?_)
  refine Zaf (λs=>decide (s.state≠0)&&decide (s.line=line)) (Zes j (O.mono hs) (by omega)) (λg' n' e K J I=> ?_) (by rw [Arr.part_len j (by omega)];have:=j.2.2.1;omega) (λn3=>Ja hs ?_)
  ·simp only [Xeh]
   exact Jg5 (J.live E) I
  ·have:=Q n3
   unfold Arr.at at this
   rw [if_neg h] at this
   exact this
theorem XdO {A:Arr} {la ls:Nat} (j:A.ok) (E:ArrH g la ls A) {K:Cont}
  (I: ∀n',K (.int .i64 (A.used+1)) (upd g la (some (.cells (XhU A.tick ls) .exact))) n'):AC J4 [ptr la 0] g n K:=by
 refine ACalls.fold Xb ?_
 rw [←Zch]
 simp only [Jbo,Qd,Qb,Nat.zero_add]
 refine Zb E.obj rfl ?_
 have J:=j.2.2.2.2
 simp only [Jf]
 rw [Qg (by omega) (by omega)]
 refine Qz E.obj rfl (by simp [XhU]) rfl ?_
 refine Zb (Xa _ _ _) rfl ?_
 exact Ja (Sub.refl _) (I _)
theorem ArrH.tick {A:Arr} {la ls:Nat} (j:ArrH g la ls A):ArrH (upd g la (some (.cells (XhU A.tick ls) .exact))) la ls A.tick:=
 ⟨Xa _ _ _,by show upd g la _ ls=_;rw [Zd _ _ (λe=>j.ne e.symm)];exact j.row,j.ne⟩
theorem ArrH.stS {A:Arr} {la ls:Nat} {line:Int} {k:Nat} {s:St} {K:G→Prop} (j:A.ok) (I:0≤line) (E:ArrH g la ls A) (J:k<A.ways)
  (kk: ∀g',Sub (hide g la ls) g'→ArrH g' la ls (A.put line k s)→K g'):Qu g ls (A.from line*11+k*11) (encS s) K:=by
 have O:=Arr.from_le j I
 have Q:=j.2.2.2.1
 rw [←Nat.add_mul]
 refine E.row.stN Qh Zar rfl (by omega) (λhb=>kk _ ?_ ⟨?_,hb,E.ne⟩)
 ·exact (ZbR g la ls).upd_fresh _ (Jgk _ _ _)
 ·rw [Zd _ _ E.ne];exact E.obj
theorem Zf0 {a b u:Int} {d:Ln} {K:List Value→Prop} (k:K (encS ⟨a,b,d,u⟩)):Qf (encS XaR) [(0,none,.int .i64 a),(1,none,.int .i64 b),(2,some 8,.agg (Zq d).toArray),(10,none,.int .i64 u)] K:=by
 refine ⟨rfl,by rw [Qh];decide,rfl,by rw [List.length_set,Qh];decide,?_⟩
 refine ⟨Je d,by simp [Qh],rfl,?_,?_⟩
 ·simp only [splice,List.length_append,List.length_take,List.length_drop,List.length_set,Qh,Je];omega
 ·have:(splice ((((encS XaR).set 0 (.int .i64 a)).set 1 (.int .i64 b))) 2 (Zq d)).set 10 (.int .i64 u)=encS ⟨a,b,d,u⟩:=by
   have e:splice ((((encS XaR).set 0 (.int .i64 a)).set 1 (.int .i64 b))) 2 (Zq d)=[.int .i64 a,.int .i64 b]++Zq d++[.int .i64 0]:=by
    unfold splice
    rw [Je]
    rfl
   rw [e,List.set_append,if_neg (by simp [Je])]
   simp [Je,encS]
  rw [this];exact k
end
section
open Go.RowKit
variable {g:G} {n:Nat}
theorem Arr.tick_ok {A:Arr} (h:A.ok) (U:A.used<100000):A.tick.ok:=by
 obtain ⟨E,J,j,I,Q,O⟩:=h
 exact ⟨E,J,j,I,by show 0≤A.used+1;omega,by show A.used+1<1000000;omega⟩
theorem Qdq {A:Arr} {la ls:Nat} {line state:Int} {d:Ln} (j:A.ok) (hu:A.used<100000) (hh:ArrH g la ls A) {K:Cont}
  (O: ∀g' n',Sub (hide g la ls) g'→ArrH g' la ls (A.set line state d).2→K (.int .i64 (A.set line state d).1) g' n'):
  AC QN [ptr la 0,.int .i64 line,.int .i64 state,.agg (Zq d).toArray] g n K:=by
 refine ACalls.fold Xb ?_
 rw [←ZcR]
 simp only [Jb6,Xe]
 intro hn
 have hs:=(Sub.refl g).new hn (some (.cells (Zq d) .exact))
 have V:=Xa g n (some (.cells (Zq d) .exact))
 have aa:=Qq hh.obj hn
 generalize upd g n (some (.cells (Zq d) .exact))=g1 at*
 have E:=hh.mono hs
 have I: ∀m,(line<0∨state<1∨9<state)→Zc K (.int .i64 1) g1 m:=by
  intro m h
  have e:A.set line state d=(1,A):=by unfold Arr.set;rw [if_pos h]
  rw [e] at O
  exact Ja (Sub.refl _) (O _ _ ((ZbR g la ls).trans hs) E)
 simp only [Zv]
 refine Jc rfl ?_
 simp only [Xk,Zbn,Zi,decide_eq_true_eq,decide_eq_false_iff_not]
 refine ⟨λh=>I _ (.inl h),λh1=>⟨λh=>I _ (.inr (.inl h)),λh2=>⟨λh=>I _ (.inr (.inr h)),λh3=> ?_⟩⟩⟩
 have Q:0≤line:=by omega
 have U: ¬(line<0∨state<1∨9<state):=by omega
 have j1: ∀(t:Env) (m:Nat),t 0=ptr la 0→t 1= .int .i64 line→t 2= .int .i64 state→t 7=ptr n 0→t 9=Xev ((A.at line).or (A.free line))→t 10=Qhz ls A line→Qam AC K t g1 m:=by
  intro t m t0 t1 t2 t7 t9 ab
  simp only [Qam,t0,t1,t2,t7,t9,ab]
  cases ho:(A.at line).or (A.free line) with
  | none=>
   have e:A.set line state d=(13,A):=by unfold Arr.set;rw [if_neg U,ho]
   rw [e] at O
   simp only [Xev,Xk]
   exact Ze rfl (Ja (Sub.refl _) (O _ _ ((ZbR g la ls).trans hs) E))
  | some k=>
   have e:A.set line state d=(0,A.tick.put line k ⟨state,line,d,A.used+1⟩):=by unfold Arr.set;rw [if_neg U,ho]
   rw [e] at O
   have hk:k<A.ways:=by
    cases ha:A.at line with
    | none=>rw [ha] at ho;exact Arr.free_lt j Q (by simpa using ho)
    | some k'=>rw [ha] at ho;simp at ho;subst ho;exact (Arr.at_lt j ha).2
   simp only [Xev,Xk]
   refine Jc (by simp) ?_
   simp only [Qb]
   refine ldL V ?_
   refine XdO j E (λn2=> ?_)
   refine ⟨Zd _ _ aa,Zf0 ?_⟩
   refine Zr (by omega) (by omega) ?_
   simp only [Qb,Xe,Int.toNat_natCast]
   refine ⟨Qh _,ArrH.stS (A:=A.tick) (line:=line) (Arr.tick_ok j hu) Q E.tick hk (λg' J Z=>Ja (Sub.refl _) (O _ _ ?_ Z))⟩
   rw [Zfw] at J
   exact (Jbd hs).trans J
 refine Jel j E (λn2=> ?_)
 refine Xcn j E Q (λn3=> ?_)
 cases ha:A.at line with
 | none=>
  simp only [Xev,Xk]
  refine Ze rfl ?_
  refine Zaf (λs=>decide (s.state=0)) (Zes j E Q) (λg' n' e K J Y=> ?_) (by rw [Arr.part_len j Q];have:=j.2.2.1;omega) (λn4=> ?_)
  ·simp only [Xeh]
   exact Zea Y
  ·exact j1 _ _ rfl rfl rfl rfl (by rw [ha];rfl) rfl
 | some k=>
  simp only [Xev,Xk]
  refine Jc (by simp) ?_
  exact j1 _ _ rfl rfl rfl rfl (by rw [ha];rfl) rfl
end
section
open Go.RowKit
variable {g:G} {n:Nat}
theorem Qgq {α:Type} {enc:α→List Value} {z:Nat} (J: ∀x,(enc x).length=z) {xs:List α} {i j:Nat} {x y:α} {v:Value} (I:xs[i]? =some x) (U:j<z) (O:enc y=(enc x).set j v):
  ((xs.map enc).flatten).set (i*z+j) v=((xs.set i y).map enc).flatten:=by
 have E:i<xs.length:=by rcases Nat.lt_or_ge i xs.length with h|h;exact h;rw [List.getElem?_eq_none h] at I;cases I
 have e:xs=xs.take i++x::xs.drop (i+1):=by
  rw [List.getElem?_eq_getElem E] at I
  cases I
  rw [←List.drop_eq_getElem_cons E,List.take_append_drop]
 have e2:xs.set i y=xs.take i++y::xs.drop (i+1):=by rw [List.set_eq_take_append_cons_drop,if_pos E]
 have Q:((xs.take i).map enc).flatten.length=i*z:=by rw [Xh enc z J,List.length_take];congr 1;omega
 rw [e2]
 conv=>lhs;rw [e]
 simp only [List.map_append,List.map_cons,List.flatten_append,List.flatten_cons]
 rw [List.set_append,if_neg (by omega),Q,show i*z+j-i*z=j by omega,List.set_append,if_pos (by rw [J];exact U),O]
theorem JfS {A:Arr} {la ls:Nat} {line:Int} (j:A.ok) (hu:A.used<100000) (E:ArrH g la ls A) {K:Cont}
  (J: ∀g' n',Sub (hide g la ls) g'→ArrH g' la ls (A.touch line)→K (.tuple #[]) g' n'):AC Jav [ptr la 0,.int .i64 line] g n K:=by
 refine ACalls.fold Xb ?_
 rw [←Zct]
 simp only [Jbw]
 refine Jel j E (λn1=> ?_)
 cases ha:A.at line with
 | none=>
  have e:A.touch line=A:=by unfold Arr.touch;rw [ha]
  rw [e] at J
  simp only [Xev,JA]
  exact Jc rfl (Ja (Sub.refl _) (J _ _ (ZbR g la ls) E))
 | some k=>
  have e:A.touch line=A.tick.put line k { A.slotAt line k with used:=A.used+1 }:=by unfold Arr.touch;rw [ha]
  rw [e] at J
  obtain ⟨O,Y⟩:=Arr.at_lt j ha
  have Z:=Arr.from_le j O
  have h2:=j.2.2.2.1
  simp only [Xev,JA]
  refine Ze (by simp) ?_
  refine Xcn j E O (λn3=> ?_)
  refine XdO j E (λV=> ?_)
  refine Zr (by omega) (by omega) ?_
  simp only [Qb,Int.toNat_natCast]
  have U:=E.tick.row
  have I:((A.l.map encS).flatten).length=A.l.length*11:=Xh encS 11 Qh _
  refine Qz U rfl ?_ rfl ?_
  ·show _<((A.l.map encS).flatten).length
   rw [I];omega
  ·have hx:A.l[A.from line+k]? =some (A.slotAt line k):=by
    unfold Arr.slotAt
    rw [List.getD_eq_getElem?_getD,List.getElem?_eq_getElem (by omega)];rfl
   have Q:encS { A.slotAt line k with used:=A.used+1 }=(encS (A.slotAt line k)).set 10 (.int .i64 (A.used+1)):=by
    unfold encS
    rw [List.set_append,if_neg (by simp [Je])]
    simp [Je]
   have:=Qgq (z:=11) Qh hx (by decide) Q
   rw [Nat.add_mul] at this
   show Zc K _ (upd _ ls (some (.cells (((A.l.map encS).flatten).set (A.from line*11+k*11+10) (.int .i64 (A.used+1))) .exact))) V
   rw [this]
   refine Ja (Sub.refl _) (J _ _ ?_ ⟨?_,Xa _ _ _,E.ne⟩)
   ·have:=(ZbR (upd g la (some (.cells (XhU A.tick ls) .exact))) la ls).upd_fresh (some (.cells ((A.l.set (A.from line+k) { A.slotAt line k with used:=A.used+1 }).map encS).flatten .exact)) (Jgk _ _ _)
    rw [Zfw] at this
    exact this
   ·rw [Zd _ _ E.ne];exact E.tick.obj
theorem Jgf {A:Arr} {la ls:Nat} {line:Int} (j:A.ok) (E:ArrH g la ls A) {K:Cont}
  (I: ∀g' n',Sub (hide g la ls) g'→ArrH g' la ls (A.drop line)→K (.bool (A.at line).isSome) g' n'):AC XaE [ptr la 0,.int .i64 line] g n K:=by
 refine ACalls.fold Xb ?_
 rw [←ZcE]
 simp only [XbZ]
 refine Jel j E (λn1=> ?_)
 cases ha:A.at line with
 | none=>
  have e:A.drop line=A:=by unfold Arr.drop;rw [ha]
  rw [e,ha] at I
  simp only [Xev,JA]
  refine Jc rfl ?_
  simp only [Zag]
  show Jb .int .geq (.int .i64 (-1)) (.int .i64 0) _
  simp only [JA]
  exact Ja (Sub.refl _) (I _ _ (ZbR g la ls) E)
 | some k=>
  have e:A.drop line=A.put line k XaR:=by unfold Arr.drop;rw [ha]
  rw [e,ha] at I
  obtain ⟨Q,U⟩:=Arr.at_lt j ha
  have V:=j.2.2.1
  simp only [Xev,JA]
  refine Ze (by simp) ?_
  refine Xcn j E Q (λn3=> ?_)
  simp only [Xi]
  refine Zr (by omega) (by omega) ?_
  simp only [Qb,Xe,Int.toNat_natCast]
  refine ⟨rfl,ArrH.stS (s:=XaR) j Q E U (λg' O J=> ?_)⟩
  simp only [Zag]
  show Jb .int .geq (.int .i64 (k:Int)) (.int .i64 0) _
  simp only [JA]
  refine Ja (Sub.refl _) ?_
  have:=I _ n3 O J
  rw [decide_eq_true (by omega)]
  exact this
theorem Xgb {A:Arr} {la ls:Nat} {line:Int} (j:A.ok) (Y:ArrH g la ls A) {K:Cont}
  (J: ∀n',K (.tuple #[.agg (encS (A.find line).1).toArray,.bool (A.find line).2]) g n'):AC QaG [ptr la 0,.int .i64 line] g n K:=by
 refine ACalls.fold Xb ?_
 rw [←Jcy]
 simp only [Zb0]
 intro Q
 have hs:=(Sub.refl g).new Q (some (.cells (encS XaR) .exact))
 have I:=Xa g n (some (.cells (encS XaR) .exact))
 change AC _ _ (upd g n (some (.cells (encS XaR) .exact))) _ _
 have E:=Y.mono hs
 refine Jel j E (λn1=> ?_)
 cases ha:A.at line with
 | none=>
  have e:A.find line=(XaR,false):=by unfold Arr.find;rw [ha]
  rw [e] at J
  simp only [Xev,Xk]
  refine Ze rfl ?_
  simp only [Xi,Xe]
  refine ⟨rfl,Xt I rfl (Nat.le_refl 11) (Zar XaR) ?_⟩
  refine ldS (x:=XaR) (Xa _ _ _) ?_
  exact Ja (hs.upd_fresh _ Q) (J _)
 | some k=>
  have e:A.find line=(A.slotAt line k,true):=by unfold Arr.find;rw [ha]
  rw [e] at J
  obtain ⟨O,V⟩:=Arr.at_lt j ha
  simp only [Xev,Xk]
  refine Jc (by simp) ?_
  refine Xcn j E O (λn3=> ?_)
  refine (Zes j E O).idx Qh (Arr.part_get j O V) (λl o U=> ?_)
  simp only [Qb]
  refine U.ldN (Qh _).symm ?_
  simp only [Xe]
  refine ⟨Qh _,Xt I rfl (by rw [Qh,Qh];decide) (Zar _) ?_⟩
  rw [Jw (by rw [Qh,Qh])]
  refine ldS (x:=A.slotAt line k) (Xa _ _ _) ?_
  exact Ja (hs.upd_fresh _ Q) (J _)
end
section
open Go.RowKit
variable {g:G} {n:Nat}
theorem JgG {A:Arr} {la ls:Nat} {line:Int} (V:A.ok) (hh:ArrH g la ls A) {K:Cont}
  (Z: ∀n',K (.tuple #[.bool (A.room line).1,.int .i64 (A.room line).2]) g n'):AC ZaH [ptr la 0,.int .i64 line] g n K:=by
 refine ACalls.fold Xb ?_
 rw [←XcH]
 simp only [JbU,Zv]
 refine Jc rfl ?_
 simp only [Xk,Zi,decide_eq_true_eq,decide_eq_false_iff_not]
 refine ⟨λh=> ?_,λh=> ?_⟩
 ·unfold Arr.room at Z
  rw [if_pos h] at Z
  exact Ja (Sub.refl _) (Z _)
 have hl:0≤line:=by omega
 have hw:=V.2.2.1
 have aj:=Arr.part_len V hl
 unfold Arr.room at Z
 rw [if_neg h] at Z
 refine Xcn V hh hl (λn1=> ?_)
 unfold Qhz
 simp only [XbU]
 refine XA (λm t g' n'=>Sub g g'∧ ∃(i:Nat) (v last:Int),m=A.ways-i∧i≤A.ways∧t 17=Qhz ls A line∧t 18= .int .i64 A.ways∧t 19= .int .i64 i∧t 5= .int .i64 v∧t 6= .int .i64 last∧
   JaX ((A.part line).drop i) v last=JaX (A.part line) (-1) 0) ?_ (m:=A.ways) ⟨Sub.refl _,0,-1,0,by simp,by simp,rfl,rfl,rfl,rfl,rfl,by simp⟩
 rintro I m t g1 n2 hI ⟨aa,i,v,last,hm,hi,E,J,Q,Y,t6,j⟩
 simp only [Zbg,E,J,Q,Xk,Zi,decide_eq_true_eq,decide_eq_false_iff_not]
 refine ⟨λae=> ?_,λak=> ?_⟩
 ·have ae:i<A.ways:=by omega
  have he:(A.part line)[i]? =some (A.slotAt line i):=Arr.part_get V hl ae
  generalize A.slotAt line i=s at he
  rw [JbM he] at j
  refine (Zes V (hh.mono aa) hl).idx Qh he (λl o ai=> ?_)
  simp only [Qb]
  refine ai.ldN (Qh _).symm ?_
  intro hn
  simp only [Xe]
  refine ⟨Qh _,Xt (Xa _ _ _) rfl (by rw [Qh];decide) (Zar _) ?_⟩
  rw [Jw (cs:=[.int .i64 0,.int .i64 0,.int .u64 0,.int .u64 0,.int .u64 0,.int .u64 0,.int .u64 0,.int .u64 0,.int .u64 0,.int .u64 0,.int .i64 0]) (by rw [Qh];rfl)]
  have ah:=((Sub.refl g1).new hn (some (.cells [.int .i64 0,.int .i64 0,.int .u64 0,.int .u64 0,.int .u64 0,.int .u64 0,.int .u64 0,.int .u64 0,.int .u64 0,.int .u64 0,.int .i64 0] .exact))).upd_fresh (some (.cells (encS s) .exact)) hn
  have ab:=Xa (upd g1 n2 (some (.cells [.int .i64 0,.int .i64 0,.int .u64 0,.int .u64 0,.int .u64 0,.int .u64 0,.int .u64 0,.int .u64 0,.int .u64 0,.int .u64 0,.int .i64 0] .exact))) n2 (some (.cells (encS s) .exact))
  generalize upd (upd g1 n2 (some (.cells [.int .i64 0,.int .i64 0,.int .u64 0,.int .u64 0,.int .u64 0,.int .u64 0,.int .u64 0,.int .u64 0,.int .u64 0,.int .u64 0,.int .i64 0] .exact))) n2 (some (.cells (encS s) .exact))=g2 at*
  have ac:=aa.trans ah
  have next: ∀(t:Env) (m:Nat) (v' O:Int),t 17=Qhz ls A line→t 18= .int .i64 A.ways→t 5= .int .i64 v'→t 6= .int .i64 O→t 19= .int .i64 ((i+1:Nat):Int)→JaX ((A.part line).drop (i+1)) v' O=JaX (A.part line) (-1) 0→I t g2 m:=by
   intro t m v' O E J Y t6 Q h
   exact hI (A.ways-(i+1)) _ _ _ (by omega) ⟨ac,i+1,v',O,rfl,by omega,E,J,Q,Y,t6,h⟩
  have j2: ∀(t:Env) (m:Nat),s.state≠0→t 17=Qhz ls A line→t 18= .int .i64 A.ways→t 19= .int .i64 i→t 5= .int .i64 v→t 6= .int .i64 last→t 8=ptr n2 0→t 27= .bool (decide (1≤s.state∧s.state≤3))→JY AC K I t g2 m:=by
   intro t m h0 E J Q Y t6 t8 af
   simp only [JY,af,Y,t6,t8,Q,Qb,Xk,Jf,Zi,decide_eq_true_eq,decide_eq_false_iff_not]
   rw [JL (by omega)]
   simp only [JaX,if_neg h0] at j
   have ad: ∀{K':Value→Prop},K' (.int .i64 s.line)→kLd g2 n2 (0+1) K':=λk=>Zb ab (Zgk s) k
   have U: ∀{K':Value→Prop},K' (.int .i64 s.used)→kLd g2 n2 (0+10) K':=λk=>Zb ab (QhH s) k
   refine ⟨λhr=>⟨λhv=>ad (U ?_),λhv=>U ?_⟩,λhr=> ?_⟩
   ·rw [if_pos ⟨hr.1,hr.2,.inl hv⟩] at j
    exact next _ _ _ _ E J rfl rfl rfl j
   ·simp only [Xk,Zi,decide_eq_true_eq,decide_eq_false_iff_not]
    refine ⟨λhu=>ad (U ?_),λhu=> ?_⟩
    ·rw [if_pos ⟨hr.1,hr.2,.inr hu⟩] at j
     exact next _ _ _ _ E J rfl rfl rfl j
    ·rw [if_neg (by omega)] at j
     exact next _ _ _ _ E J Y t6 rfl j
   ·rw [if_neg (by omega)] at j
    exact next _ _ _ _ E J Y t6 rfl j
  refine Zb ab (Jfs s) ?_
  simp only [Jq,Zi,decide_eq_true_eq,decide_eq_false_iff_not]
  refine ⟨λh0=> ?_,λh0=>⟨λh1=> ?_,λh1=>⟨λh2=> ?_,λh2=> ?_⟩⟩⟩
  ·simp only [JaX,if_pos h0] at j
   rw [←j] at Z
   exact Ja ac (Z _)
  ·exact j2 _ _ h0 E J Q Y t6 rfl (by rw [show decide (1≤s.state∧s.state≤3)=true from by rw [decide_eq_true_eq];omega];show Value.bool _=_;rw [decide_eq_true h1])
  ·exact j2 _ _ h0 E J Q Y t6 rfl (by rw [show decide (1≤s.state∧s.state≤3)=true from by rw [decide_eq_true_eq];omega];show Value.bool _=_;rw [decide_eq_true h2])
  ·refine j2 _ _ h0 E J Q Y t6 rfl ?_
   show Value.bool (decide (s.state=3))=_
   congr 1
   rw [decide_eq_decide];omega
 ·have:i=A.ways:=by omega
  subst this
  rw [List.drop_of_length_le (by omega)] at j
  simp only [JaX] at j
  rw [←j] at Z
  simp only [Zbk]
  show Zc K (.tuple #[.bool false,t 5]) g1 n2
  rw [Y]
  exact Ja aa (Z _)
end
section
open Go.RowKit
variable {g:G} {n:Nat}
@[simp] theorem Zc2 {a:Addr} {m c:Nat} {K:Value→Prop}:Jb .slice .eql (.slice (some a) m c) (.slice none 0 0) K=K (.bool false):=rfl
theorem ZdI {v:Value} {l o m c:Nat} {xs:List St} (U:v= .slice (some ⟨l,o,none⟩) m c) (h:Sl encS 11 g v xs) (J:xs.length<1000000) {K:Cont}
  (Q: ∀j g' n',Sub g g'→OwnS encS 11 g g' j xs→K j g' n'):AC QA [v] g n K:=by
 subst U
 refine ACalls.fold Xb ?_
 rw [←Jau]
 simp only [X2,Zc2]
 refine Jc rfl ?_
 simp only [Xi]
 intro O
 have hs:=(Sub.refl g).new O (some (.cells (reps 0 [.int .i64 0,.int .i64 0,.int .u64 0,.int .u64 0,.int .u64 0,.int .u64 0,.int .u64 0,.int .u64 0,.int .u64 0,.int .u64 0,.int .i64 0]) .exact))
 refine OwnS.append (g0:=g) (xs:=([]:List St)) OwnS.empty hs (h.mono hs) Zar (by decide) (by simp;omega) (by simp;omega) (λj g' n' E I _ _=>Ja (Sub.refl _) (Q _ _ _ E ?_))
 simpa using I
theorem Qdy {A:Arr} {la ls:Nat} (j:A.ok) (hh:ArrH g la ls A) {K:Cont}
  (hK: ∀Q g' n',Sub g g'→Sl encS 11 g' Q A.slots→(∀l,X4 Q=some l→g l=none)→K Q g' n'):AC JQ [ptr la 0] g n K:=by
 refine ACalls.fold Xb ?_
 rw [←Jcn]
 simp only [Zby,Zv]
 refine Jc rfl ?_
 simp only [Qd,Qb,Nat.zero_add]
 refine Zb hh.obj rfl ?_
 have E:A.l.length<1000000:=by have:=Arr.small j;have:=j.2.2.2.1;omega
 have V:Sl encS 11 g (.slice (some ⟨ls,0,none⟩) (A.sets*A.ways) (A.sets*A.ways)) A.l:=by
  have:=hh.row.sl (i:=0) (m:=A.sets*A.ways) (c:=A.sets*A.ways) Qh (by rw [j.2.2.2.1];omega)
  rw [Nat.zero_mul,List.drop_zero,List.take_of_length_le (by rw [j.2.2.2.1];exact Nat.le_refl _)] at this
  exact this
 have I:A.l≠[]:=by
  intro e
  have h0:=j.2.2.2.1
  rw [e] at h0
  have h1:=j.1
  have h2:=j.2.1
  have Y:A.sets*A.ways=0:=h0.symm
  rcases Nat.mul_eq_zero.1 Y with a|a<;>omega
 refine ZdI rfl V E (λv1 g1 n1 O U=> ?_)
 refine Qcf (λs=>decide (s.state=0)) U O (λg' n' e K aa J=> ?_) E (λv2 g2 n2 Z h2 Y=>Ja (Sub.refl _) (hK _ _ _ Z h2 (Y I)))
 simp only [Xeh]
 exact Zea J
theorem Qf3 {A:Arr} {la ls:Nat} (E:A.ok) (I:ArrH g la ls A) {K:Cont}
  (J: ∀j g' n',Sub g g'→Sl encS 11 g' j A.slots→K j g' n'):AC JQ [ptr la 0] g n K:=
 Qdy E I (λj g' n' a b _=>J j g' n' a b)
def Xfx (s w:Nat):Arr:=⟨s,w,List.replicate (s*w) XaR,0⟩
theorem JhE {s w:Nat} (hs:s=1∨s=2∨s=4∨s=8) (j:1≤w) (E:w≤8):(Xfx s w).ok:=⟨hs,j,E,by simp [Xfx],by simp [Xfx],by simp [Xfx]⟩
def Zf5 (s w:Int):Prop:=(s=1∨s=2∨s=4∨s=8)∧1≤w∧w≤8
theorem Xhd {s w:Nat} (Z:s*w≤64) {K:Cont} (hK: ∀la ls g' n',Sub g g'→g la=none→g ls=none→ArrH g' la ls (Xfx s w)→K (.tuple #[ptr la 0,.int .i64 0]) g' n'):
  Zcr (.int .i64 ((s*w:Nat):Int)) (.int .i64 ((s*w:Nat):Int)) (encS XaR) 88 g n λQ g3 V=>
  Qf [(.int .i64 0),(.int .i64 0),(.slice none 0 0),(.int .i64 0)] [(0,none,.int .i64 s),(1,none,.int .i64 w),(2,none,Q)] λJ=>
  Jj (.agg J.toArray) λU=>
  Zl U .exact g3 V λO g4 n35=>
  Zc K (.tuple #[(ptr O 0),(.int .i64 0)]) g4 n35:=by
 refine ⟨by omega,by omega,by omega,by omega,?_⟩
 intro Y
 simp only [Int.toNat_natCast]
 refine ⟨rfl,by simp,rfl,by simp,rfl,by simp,?_⟩
 simp only [Xi,Xe]
 intro j
 have I:=(Sub.refl g).new Y (some (.cells (reps (s*w) (encS XaR)) .exact))
 have E:=Qq (Xa g n (some (.cells (reps (s*w) (encS XaR)) .exact))) j
 refine Ja (Sub.refl _) (hK _ _ _ _ (I.new j _) (I.none j) Y ⟨Xa _ _ _,?_,E⟩)
 show upd _ _ _ _=_
 rw [Zd _ _ (λe=>E e.symm),Xa,Jab]
 rfl
theorem QgW {s w:Int} {K:Cont} (j: ¬Zf5 s w→ ∀n',K (.tuple #[.pointer none,.int .i64 1]) g n')
  (hK:Zf5 s w→ ∀la ls g' n',Sub g g'→g la=none→g ls=none→ArrH g' la ls (Xfx s.toNat w.toNat)→K (.tuple #[ptr la 0,.int .i64 0]) g' n'):XdM AC (.int .i64 s) (.int .i64 w) g n K:=by
 simp only [XdM,Jal,Xk,Zbn,Xeo,Zi,decide_eq_true_eq,decide_eq_false_iff_not]
 have bad: ¬Zf5 s w→Zc K (.tuple #[.pointer none,.int .i64 1]) g n:=λh=>Ja (Sub.refl _) (j h _)
 have tail:(s=1∨s=2∨s=4∨s=8)→((w<1→Zc K (.tuple #[.pointer none,.int .i64 1]) g n)∧(¬w<1→(8<w→Zc K (.tuple #[.pointer none,.int .i64 1]) g n)∧(¬8<w→
   Zcr (.int .i64 (IntKind.i64.wrap (s*w))) (.int .i64 (IntKind.i64.wrap (s*w))) [(.int .i64 0),(.int .i64 0),(.int .u64 0),(.int .u64 0),(.int .u64 0),(.int .u64 0),(.int .u64 0),(.int .u64 0),(.int .u64 0),(.int .u64 0),(.int .i64 0)] 88 g n λO g3 Y=>
   Qf [(.int .i64 0),(.int .i64 0),(.slice none 0 0),(.int .i64 0)] [(0,none,.int .i64 s),(1,none,.int .i64 w),(2,none,O)] λI=>
   Jj (.agg I.toArray) λV=>
   Zl V .exact g3 Y λJ g4 Q=>
   Zc K (.tuple #[(ptr J 0),(.int .i64 0)]) g4 Q))):=by
  intro hs
  refine ⟨λh=>bad (λE=>by have:=E.2;omega),λZ=>⟨λh=>bad (λE=>by have:=E.2;omega),λh2=> ?_⟩⟩
  obtain ⟨s',rfl⟩: ∃s':Nat,s=s':=⟨s.toNat,by omega⟩
  obtain ⟨w',rfl⟩: ∃w':Nat,w=w':=⟨w.toNat,by omega⟩
  have U:s'*w'≤64:=by
   have:=Nat.mul_le_mul (show s'≤8 by omega) (show w'≤8 by omega)
   omega
  rw [←Int.natCast_mul,Qg (by omega) (by omega)]
  exact Xhd U (λla ls g' n' a b c d=>hK ⟨hs,by omega,by omega⟩ la ls g' n' a b c d)
 refine ⟨λZ=>⟨λh2=>⟨λh4=>⟨λh8=>bad (λE=>by have:=E.1;omega),λh8=>tail (by omega)⟩,λh4=>tail (by omega)⟩,λh2=>tail (by omega)⟩,λZ=>tail (by omega)⟩
theorem Jhg {s w:Int} {K:Cont} (j: ¬Zf5 s w→ ∀n',K (.tuple #[.pointer none,.int .i64 1]) g n')
  (E:Zf5 s w→ ∀la ls g' n',Sub g g'→g la=none→g ls=none→ArrH g' la ls (Xfx s.toNat w.toNat)→K (.tuple #[ptr la 0,.int .i64 0]) g' n'):AC Xcd [.int .i64 s,.int .i64 w] g n K:=by
 refine ACalls.fold Xb ?_
 rw [←XeA]
 exact QgW j E
end
section
open Go.RowKit
structure Arr.wf (A:Arr):Prop where
 place: ∀(i:Nat) (s:St),A.l[i]? =some s→s.state≠0→0≤s.line∧A.from s.line≤i∧i<A.from s.line+A.ways∧1≤s.state∧s.state≤9
 once: ∀(i j:Nat) (s t:St),A.l[i]? =some s→A.l[j]? =some t→s.state≠0→t.state≠0→(s.line=t.line∨s.used=t.used)→i=j
 used: ∀(i:Nat) (s:St),A.l[i]? =some s→s.state≠0→1≤s.used∧s.used≤A.used
theorem Arr.part_idx {A:Arr} {line:Int} {k:Nat} (j:k<A.ways):(A.part line)[k]? =A.l[A.from line+k]? :=by
 unfold Arr.part
 rw [List.getElem?_take,if_pos j,List.getElem?_drop]
theorem Arr.at_some {A:Arr} (h:A.ok) {line:Int} {k:Nat} (E:A.at line=some k): ∃s,A.l[A.from line+k]? =some s∧s.state≠0∧s.line=line∧A.slotAt line k=s:=by
 obtain ⟨J,j⟩:=Arr.at_lt h E
 unfold Arr.at at E
 rw [if_neg (by omega)] at E
 obtain ⟨O,I,_⟩:=List.findIdx?_eq_some_iff_getElem.1 E
 have e2:=Arr.part_get h J j
 rw [Arr.part_idx j] at e2
 simp only [Bool.and_eq_true,decide_eq_true_eq] at I
 refine ⟨_,e2,?_⟩
 have e3:(A.part line)[k]=A.slotAt line k:=by
  have:=Arr.part_get h J j
  rw [List.getElem?_eq_getElem O] at this
  exact Option.some.inj this
 rw [e3] at I
 exact ⟨I.1,I.2,rfl⟩
theorem Arr.at_none {A:Arr} (h:A.ok) (I:A.wf) {line:Int} (j:A.at line=none): ∀(i:Nat) (s:St),A.l[i]? =some s→s.state≠0→s.line≠line:=by
 intro i s E hs e
 subst e
 obtain ⟨J,O,Q,_⟩:=I.place i s E hs
 unfold Arr.at at j
 rw [if_neg (by omega),List.findIdx?_eq_none_iff] at j
 have hm:s∈A.part s.line:=by
  have:(A.part s.line)[i-A.from s.line]? =some s:=by
   rw [Arr.part_idx (by omega),show A.from s.line+(i-A.from s.line)=i by omega];exact E
  exact List.mem_of_getElem? this
 have:=j s hm
 simp [hs] at this
theorem Arr.at_of {A:Arr} (h:A.ok) (E:A.wf) {i:Nat} {s:St} (I:A.l[i]? =some s) (hs:s.state≠0):A.at s.line=some (i-A.from s.line):=by
 cases ha:A.at s.line with
 | none=>exact absurd rfl (Arr.at_none h E ha i s I hs)
 | some k=>
  obtain ⟨t,J,j,O,_⟩:=Arr.at_some h ha
  have:=E.once _ _ _ _ J I j hs (.inl O)
  congr 1;omega
theorem Arr.free_some {A:Arr} (h:A.ok) {line:Int} (J:0≤line) {k:Nat} (E:A.free line=some k): ∃s,A.l[A.from line+k]? =some s∧s.state=0:=by
 have j:=Arr.free_lt h J E
 obtain ⟨I,O,_⟩:=List.findIdx?_eq_some_iff_getElem.1 E
 refine ⟨(A.part line)[k],?_,by simpa using O⟩
 rw [←Arr.part_idx j,List.getElem?_eq_getElem I]
theorem Arr.put_wf {A:Arr} (h:A.ok) (U:A.wf) {line:Int} (Y:0≤line) {k:Nat} (hk:k<A.ways) {s:St} (hs:s.line=line) (hu:s.used=A.used+1) (Z:1≤s.state) (h9:s.state≤9)
  (V: ∀(i:Nat) (t:St),A.l[i]? =some t→t.state≠0→t.line=line→i=A.from line+k):(A.tick.put line k s).wf:=by
 have hf:=Arr.from_le h Y
 have aa:=h.2.2.2.2.1
 have key: ∀(i:Nat) (t:St),(A.tick.put line k s).l[i]? =some t→(i=A.from line+k∧t=s)∨(i≠A.from line+k∧A.l[i]? =some t):=by
  intro i t E
  have E:(A.l.set (A.from line+k) s)[i]? =some t:=E
  rw [List.getElem?_set] at E
  split at E
  ·rename_i e
   split at E
   ·cases E;exact .inl ⟨e.symm,rfl⟩
   ·cases E
  ·rename_i e;exact .inr ⟨λx=>e x.symm,E⟩
 refine ⟨?_,?_,?_⟩
 ·intro i t E O
  rcases key i t E with ⟨rfl,rfl⟩|⟨_,E⟩
  ·rw [hs]
   exact ⟨Y,by show A.from line≤_;omega,by show _<A.from line+A.ways;omega,Z,h9⟩
  ·exact U.place i t E O
 ·intro i j t t' E hj O I e
  rcases key i t E with ⟨e1,e2⟩|⟨ni,J⟩<;>rcases key j t' hj with ⟨e3,e4⟩|⟨nj,Q⟩
  ·rw [e1,e3]
  ·rw [e2] at e
   rcases e with e|e
   ·rw [e1];exact (V j t' Q I (by rw [←e,hs])).symm
   ·have:=U.used j t' Q I;omega
  ·rw [e4] at e
   rcases e with e|e
   ·rw [e3];exact V i t J O (by rw [e,hs])
   ·have:=U.used i t J O;omega
  ·exact U.once i j t t' J Q O I e
 ·intro i t E O
  rcases key i t E with ⟨rfl,rfl⟩|⟨_,E⟩
  ·exact ⟨by omega,by show t.used≤A.used+1;omega⟩
  ·have:=U.used i t E O
   exact ⟨this.1,by show t.used≤A.used+1;omega⟩
theorem Arr.set_wf {A:Arr} (h:A.ok) (E:A.wf) (line state:Int) (d:Ln):(A.set line state d).2.wf:=by
 unfold Arr.set
 split
 ·exact E
 ·rename_i hc
  have J:0≤line:=by omega
  cases ha:A.at line with
  | some k=>
   obtain ⟨t,V,Q,I,_⟩:=Arr.at_some h ha
   obtain ⟨_,U⟩:=Arr.at_lt h ha
   simp only [Option.some_or]
   exact Arr.put_wf h E J U rfl rfl (by show 1≤state;omega) (by show state≤9;omega) (λi t' O j e=>E.once _ _ _ _ O V j Q (.inl (by rw [e,I])))
  | none=>
   simp only [Option.none_or]
   cases hf:A.free line with
   | none=>exact E
   | some k=>
    exact Arr.put_wf h E J (Arr.free_lt h J hf) rfl rfl (by show 1≤state;omega) (by show state≤9;omega) (λi t' O j e=>absurd e (Arr.at_none h E ha i t' O j))
theorem Arr.touch_wf {A:Arr} (h:A.ok) (J:A.wf) (line:Int):(A.touch line).wf:=by
 unfold Arr.touch
 cases ha:A.at line with
 | none=>exact J
 | some k=>
  obtain ⟨t,Q,I,E,j⟩:=Arr.at_some h ha
  obtain ⟨V,U⟩:=Arr.at_lt h ha
  have hp:=J.place _ _ Q I
  refine Arr.put_wf h J V U ?_ rfl ?_ ?_ (λi t' Y O e=>J.once _ _ _ _ Y Q O I (.inl (by rw [e,E])))
  ·show (A.slotAt line k).line=line;rw [j];exact E
  ·show 1≤(A.slotAt line k).state;rw [j];exact hp.2.2.2.1
  ·show (A.slotAt line k).state≤9;rw [j];exact hp.2.2.2.2
theorem Arr.drop_wf {A:Arr} (O:A.wf) (line:Int):(A.drop line).wf:=by
 unfold Arr.drop
 cases ha:A.at line with
 | none=>exact O
 | some k=>
  have key: ∀(i:Nat) (t:St),(A.put line k XaR).l[i]? =some t→t.state≠0→A.l[i]? =some t:=by
   intro i t E I
   have E:(A.l.set (A.from line+k) XaR)[i]? =some t:=E
   rw [List.getElem?_set] at E
   split at E
   ·split at E
    ·cases E;exact absurd rfl I
    ·cases E
   ·exact E
  exact ⟨λi t E I=>O.place i t (key i t E I) I,λi j t t' E Q I J e=>O.once i j t t' (key i t E I) (key j t' Q J) I J e,λi t E I=>O.used i t (key i t E I) I⟩
theorem JhI (s w:Nat):(Xfx s w).wf:=by
 have key: ∀(i:Nat) (t:St),(Xfx s w).l[i]? =some t→t.state=0:=by
  intro i t E
  have:=List.mem_of_getElem? E
  have:=(List.mem_replicate.1 this).2
  subst this;rfl
 exact ⟨λi t E I=>absurd (key i t E) I,λi j t t' E O I J e=>absurd (key i t E) I,λi t E I=>absurd (key i t E) I⟩
theorem Arr.set_ok {A:Arr} (h:A.ok) (j:A.used<100000) (line state:Int) (d:Ln):(A.set line state d).2.ok:=by
 unfold Arr.set
 split
 ·exact h
 ·split
  ·exact h
  ·exact Arr.put_ok (Arr.tick_ok h j) _ _ _
theorem Arr.touch_ok {A:Arr} (h:A.ok) (j:A.used<100000) (line:Int):(A.touch line).ok:=by
 unfold Arr.touch
 split
 ·exact h
 ·exact Arr.put_ok (Arr.tick_ok h j) _ _ _
theorem Arr.drop_ok {A:Arr} (h:A.ok) (line:Int):(A.drop line).ok:=by
 unfold Arr.drop
 split
 ·exact h
 ·exact Arr.put_ok h _ _ _
theorem Arr.set_used (A:Arr) (line state:Int) (d:Ln):A.used≤(A.set line state d).2.used∧(A.set line state d).2.used≤A.used+1:=by
 unfold Arr.set
 split
 ·exact ⟨Int.le_refl _,by show A.used≤A.used+1;omega⟩
 ·split
  ·exact ⟨Int.le_refl _,by show A.used≤A.used+1;omega⟩
  ·exact ⟨by show A.used≤A.used+1;omega,by show A.used+1≤A.used+1;omega⟩
theorem Arr.touch_used (A:Arr) (line:Int):A.used≤(A.touch line).used∧(A.touch line).used≤A.used+1:=by
 unfold Arr.touch
 split
 ·exact ⟨Int.le_refl _,by omega⟩
 ·exact ⟨by show A.used≤A.used+1;omega,by show A.used+1≤A.used+1;omega⟩
theorem Arr.drop_used (A:Arr) (line:Int):(A.drop line).used=A.used:=by
 unfold Arr.drop
 split<;>rfl
def St.rest (s:St):Prop:=1≤s.state∧s.state≤3
end
section
open Go.RowKit
variable {g:G} {n:Nat}
theorem XeD (s:St):((encS s).drop 2).take 8=Zq s.data:=by
 show ((Zq s.data++[Value.int .i64 s.used]).take 8)=_
 rw [List.take_left' (Je _)]
def Has (A:Arr) (m:Int) (s:St):Prop:= ∃i:Nat,A.l[i]? =some s∧s.state≠0∧s.line=m
theorem Has.put {A:Arr} {m line:Int} {k:Nat} {s t:St} (h:Has A m s) (I: ∀u,A.l[A.from line+k]? =some u→u.state=0∨u.line≠m):Has (A.put line k t) m s:=by
 obtain ⟨i,j,E,hm⟩:=h
 refine ⟨i,?_,E,hm⟩
 show (A.l.set (A.from line+k) t)[i]? =some s
 rw [List.getElem?_set_ne];exact j
 intro e
 subst e
 rcases I s j with e|e
 ·exact E e
 ·exact e hm
theorem Has.set {A:Arr} (j:A.ok) {m line state:Int} {d:Ln} {s:St} (h:Has A m s) (J:m≠line):Has (A.set line state d).2 m s:=by
 unfold Arr.set
 split
 ·exact h
 ·rename_i hc
  have U:0≤line:=by omega
  cases ha:A.at line with
  | some k=>
   obtain ⟨t,Q,E,I,_⟩:=Arr.at_some j ha
   simp only [Option.some_or]
   refine Has.put (A:=A.tick) h (λu O=> .inr ?_)
   have:A.l[A.from line+k]? =some u:=O
   rw [Q] at this;cases this
   rw [I];exact λe=>J e.symm
  | none=>
   simp only [Option.none_or]
   cases hf:A.free line with
   | none=>exact h
   | some k=>
    obtain ⟨t,Q,E⟩:=Arr.free_some j U hf
    refine Has.put (A:=A.tick) h (λu O=> .inl ?_)
    have:A.l[A.from line+k]? =some u:=O
    rw [Q] at this;cases this
    exact E
theorem Has.drop {A:Arr} (E:A.ok) {m line:Int} {s:St} (h:Has A m s) (I:m≠line):Has (A.drop line) m s:=by
 unfold Arr.drop
 cases ha:A.at line with
 | none=>exact h
 | some k=>
  obtain ⟨t,Q,O,j,_⟩:=Arr.at_some E ha
  refine Has.put h (λu J=> .inr ?_)
  rw [Q] at J;cases J
  rw [j];exact λe=>I e.symm
theorem Has.find {A:Arr} (j:A.ok) (U:A.wf) {m:Int} {s:St} (h:Has A m s):A.find m=(s,true)∧(A.at m).isSome=true:=by
 obtain ⟨i,E,Y,rfl⟩:=h
 have V:=Arr.at_of j U E Y
 obtain ⟨t,Q,O,I,J⟩:=Arr.at_some j V
 have:=U.once _ _ _ _ Q E O Y (.inl I)
 rw [this] at Q
 rw [Q] at E;cases E
 unfold Arr.find
 rw [V]
 exact ⟨by show (A.slotAt _ _,true)=_;rw [J],rfl⟩
def Low (A:Arr):Prop:= ∀s∈A.l,s.state≤3
theorem Low.put {A:Arr} {line:Int} {k:Nat} {t:St} (h:Low A) (j:t.state≤3):Low (A.put line k t):=by
 intro s hs
 rcases List.mem_or_eq_of_mem_set (show s∈A.l.set (A.from line+k) t from hs) with hs|rfl
 ·exact h s hs
 ·exact j
theorem Low.set {A:Arr} {line state:Int} {d:Ln} (h:Low A) (hs:state≤3):Low (A.set line state d).2:=by
 unfold Arr.set
 split
 ·exact h
 ·split
  ·exact h
  ·exact Low.put (A:=A.tick) h hs
theorem Low.drop {A:Arr} {line:Int} (h:Low A):Low (A.drop line):=by
 unfold Arr.drop
 split
 ·exact h
 ·exact Low.put h (by decide)
end
section
open Go.RowKit
theorem Arr.len64 {A:Arr} (j:A.ok):A.l.length≤64:=by rw [j.2.2.2.1];exact Arr.small j
end
section
open Go.RowKit
variable {g:G} {n:Nat}
theorem QhE {s:St} {K:Nat→G→Nat→Prop} (k: ∀j,Sub g j→g n=none→j n=some (.cells (encS s) .exact)→K n j (n+1)):
  Zl (encS XaR) .exact g n λl J n1=>Jj (.agg (encS s).toArray) λI=>I.length=11∧Qu J l 0 I λj=>K l j n1:=by
 intro E
 simp only [Xe]
 refine ⟨Qh _,Xt (Xa _ _ _) rfl (by rw [Qh,Qh];decide) (Zar _) ?_⟩
 rw [Jw (by rw [Qh,Qh])]
 exact k _ (((Sub.refl g).new E _).upd_fresh _ E) E (Xa _ _ _)
theorem Zio {K:Nat→G→Nat→Prop} (k: ∀j,Sub g j→g n=none→j n=some (.cells (encS XaR) .exact)→K n j (n+1)):Zl (encS XaR) .exact g n K:=
 λE=>k _ ((Sub.refl g).new E _) E (Xa _ _ _)
structure Ms where
 kind:Int
 line:Int
 dirty:Bool
 kept:Bool
 data:Ln
 deriving DecidableEq
def Zk (m:Ms):List Value:=[.int .i64 m.kind,.int .i64 m.line,.bool m.dirty,.bool m.kept]++Zq m.data
theorem Xj (m:Ms):(Zk m).length=12:=by simp [Zk,Je]
theorem Xb4 (m:Ms): ∀v∈Zk m,isCell v=true:=by
 intro v j
 simp only [Zk,List.mem_append,List.mem_cons,List.not_mem_nil,or_false] at j
 rcases j with (rfl|rfl|rfl|rfl)|h
 ·rfl
 ·rfl
 ·rfl
 ·rfl
 ·exact ZM _ v h
def Xm:Ms:=⟨0,0,false,false,zeroL⟩
theorem ZgM (m:Ms):((Zk m).drop 4).take 8=Zq m.data:=by
 show (Zq m.data).take 8=_
 rw [List.take_of_length_le (by rw [Je];exact Nat.le_refl _)]
theorem Qih {l:Nat} {m:Ms} {bk:BK} {K:List Value→Prop} (h:g l=some (.cells (Zk m) bk)) (k:K (Zq m.data)):Ql g l (0+4) 8 K:=by
 refine Jt h (by rw [Xj];decide) ?_
 rw [Nat.zero_add,ZgM];exact k
theorem ldM {l:Nat} {m:Ms} {bk:BK} {K:List Value→Prop} (h:g l=some (.cells (Zk m) bk)) (k:K (Zk m)):Ql g l 0 12 K:=by
 refine Jt h (by rw [Xj];decide) ?_
 rw [List.drop_zero,List.take_of_length_le (by rw [Xj];exact Nat.le_refl _)];exact k
theorem Xhz {l:Nat} {s:St} {bk:BK} {K:List Value→Prop} (h:g l=some (.cells (encS s) bk)) (k:K (Zq s.data)):Ql g l (0+2) 8 K:=by
 refine Jt h (by rw [Qh];decide) ?_
 rw [Nat.zero_add,XeD];exact k
theorem XgP {l:Nat} {s:St} {bk:BK} {K:Value→Prop} (h:g l=some (.cells (encS s) bk)) (k:K (.int .i64 s.state)):kLd g l (0+0) K:=Zb h (Jfs s) k
theorem Xil {l:Nat} {s:St} {bk:BK} {K:Value→Prop} (h:g l=some (.cells (encS s) bk)) (k:K (.int .i64 s.line)):kLd g l (0+1) K:=Zb h (Zgk s) k
theorem Jh9 {m:Ms} {K:Nat→G→Nat→Prop} (k: ∀j,Sub g j→g n=none→j n=some (.cells (Zk m) .exact)→K n j (n+1)):
  Zl (Zk Xm) .exact g n λl J n1=>Jj (.agg (Zk m).toArray) λI=>I.length=12∧Qu J l 0 I λj=>K l j n1:=by
 intro E
 simp only [Xe]
 refine ⟨Xj _,Xt (Xa _ _ _) rfl (by rw [Xj,Xj];decide) (Xb4 _) ?_⟩
 rw [Jw (by rw [Xj,Xj])]
 exact k _ (((Sub.refl g).new E _).upd_fresh _ E) E (Xa _ _ _)
theorem Jdn {a b:Int} {K:List Value→Prop} (k:K (Zk ⟨a,b,false,false,zeroL⟩)):Qf (Zk Xm) [(0,none,.int .i64 a),(1,none,.int .i64 b)] K:=⟨rfl,by rw [Xj];decide,rfl,by rw [List.length_set,Xj];decide,k⟩
theorem Xg2 {b:Int} {K:List Value→Prop} (k:K (Zk ⟨0,b,false,false,zeroL⟩)):Qf (Zk Xm) [(1,none,.int .i64 b)] K:=⟨rfl,by rw [Xj];decide,k⟩
theorem Xec {m:Ms} {K:List Value→Prop} (k:K (Zk m)):Qf (reps 1 (Zk Xm)) [(0,some 12,.agg (Zk m).toArray)] K:=by
 refine ⟨Xj m,by rw [show (reps 1 (Zk Xm)).length=12 from rfl];decide,?_⟩
 have:splice (reps 1 (Zk Xm)) 0 (Zk m)=Zk m:=Jw (by rw [Xj];rfl)
 rw [this];exact k
theorem Jh8 {l:Nat} {m:Ms} {d:Ln} {K:G→Prop} (h:g l=some (.cells (Zk m) .exact)) (k:K (upd g l (some (.cells (Zk { m with data:=d }) .exact)))):Qu g l (0+4) (Zq d) K:=by
 refine Xt h rfl (by rw [Xj,Je];decide) (ZM _) ?_
 have e:splice (Zk m) (0+4) (Zq d)=Zk { m with data:=d }:=by
  unfold splice Zk
  rw [Je]
  show [_,_,_,_]++Zq d++(Zq m.data).drop 8=_
  rw [List.drop_of_length_le (by rw [Je];exact Nat.le_refl _),List.append_nil]
 rw [e]
 exact k
structure AgH (g:G) (lg la ls:Nat) (A:Arr):Prop where
 obj:g lg=some (.cells [ptr la 0] .exact)
 arr:ArrH g la ls A
 n1:lg≠la
 n2:lg≠ls
theorem AgH.mono {g':G} {lg la ls:Nat} {A:Arr} (h:AgH g lg la ls A) (hs:Sub g g'):AgH g' lg la ls A:=⟨hs.live h.obj,h.arr.mono hs,h.n1,h.n2⟩
theorem AgH.next {g':G} {lg la ls:Nat} {A A':Arr} (h:AgH g lg la ls A) (hs:Sub (hide g la ls) g') (j:ArrH g' la ls A'):AgH g' lg la ls A':=
 ⟨hs.live (Z6 h.n1 h.n2 h.obj),j,h.n1,h.n2⟩
theorem ldA {lg la ls:Nat} {A:Arr} (h:AgH g lg la ls A) {K:Value→Prop} (k:K (ptr la 0)):kLd g lg (0+0) K:=Zb h.obj rfl k
def Arr.slot (A:Arr) (line:Int):St:=(A.find line).1
def isW (a b:Int):Bool:=decide (0≤a∧a<64∧0≤b∧b<8)
def Qhg (s:St):Bool:=decide (0≤s.state∧s.state≤3)
def Arr.idle (A:Arr):Bool:=(A.slots.findIdx? λs=> !Qhg s).isNone
def Arr.owns (A:Arr) (line:Int):Bool:=decide ((A.slot line).state=2∨(A.slot line).state=3)
theorem Qfh {a b:Int} {K:Cont} (E: ∀n',K (.bool (isW a b)) g n'):AC Jbc [.int .i64 a,.int .i64 b] g n K:=by
 refine ACalls.fold Xb ?_
 rw [←Xfj]
 simp only [Zfv,JA,Xk,Zi,decide_eq_true_eq,decide_eq_false_iff_not]
 have j: ¬(0≤a∧a<64∧0≤b∧b<8)→Zc K (.bool false) g n:=λh=>by
  have k:=E n
  unfold isW at k
  rw [decide_eq_false h] at k
  exact Ja (Sub.refl _) k
 refine ⟨λJ=>⟨λO=>⟨λI=>Ja (Sub.refl _) ?_,λI=>j (by omega)⟩,λO=>j (by omega)⟩,λJ=>j (by omega)⟩
 have k:=E n
 unfold isW at k
 rw [show decide (0≤a∧a<64∧0≤b∧b<8)=decide (b<8) from by rw [decide_eq_decide];omega] at k
 exact k
theorem find_spec {A:Arr} {lg la ls:Nat} {line:Int} (J:A.ok) (U:AgH g lg la ls A) {K:Cont} (Y: ∀n',K (.agg (encS (A.slot line)).toArray) g n'):AC Qr [ptr lg 0,.int .i64 line] g n K:=by
 refine ACalls.fold Xb ?_
 rw [←XcG]
 simp only [ZbW,Qd,Qb]
 refine Zio (λg1 hs Q I=> ?_)
 have j:=U.mono hs
 refine ldA j (Xgb J j.arr (λn2=> ?_))
 simp only [Xw,XC,QC]
 refine QhE (s:=A.slot line) (λZ E V O=> ?_)
 refine ldS O ?_
 simp only [Xe]
 refine ⟨Qh _,Xt (E.live I) rfl (by rw [Qh,Qh];decide) (Zar _) ?_⟩
 rw [Jw (by rw [Qh,Qh])]
 refine ldS (x:=A.slot line) (Xa _ _ _) ?_
 exact Ja ((hs.trans E).upd_fresh _ Q) (Y _)
theorem JdI {A:Arr} {lg la ls:Nat} {line:Int} (E:A.ok) (J:AgH g lg la ls A) {K:Cont} (O: ∀n',K (.bool (A.owns line)) g n'):AC ZY [ptr lg 0,.int .i64 line] g n K:=by
 refine ACalls.fold Xb ?_
 rw [←ZcF]
 simp only [Qb0,Zv]
 refine Jc rfl (find_spec E J (λn1=>QhE (s:=A.slot line) (λQ j _ I=> ?_)))
 refine XgP I ?_
 simp only [Jq,Zi,decide_eq_true_eq,decide_eq_false_iff_not]
 have k:=O (n1+1)
 unfold Arr.owns at k
 refine ⟨λh=>Ja j ?_,λh=>XgP I ?_⟩
 ·rw [decide_eq_true (.inl h)] at k;exact k
 ·rw [show decide ((A.slot line).state=2∨(A.slot line).state=3)=decide ((A.slot line).state=3) from by rw [decide_eq_decide];omega] at k
  simp only [Jq]
  exact Ja j k
theorem Jep {A:Arr} {lg la ls:Nat} (E:A.ok) (I:AgH g lg la ls A) {K:Cont} (Q: ∀j g' n',Sub g g'→Sl encS 11 g' j A.slots→(∀l,X4 j=some l→g l=none)→K j g' n'):AC Qav [ptr lg 0] g n K:=by
 refine ACalls.fold Xb ?_
 rw [←Qct]
 simp only [Xbw,Zv,Qd,Qb]
 exact Jc rfl (ldA I (Qdy E I.arr (λj g' n' O U J=>Ja (Sub.refl _) (Q _ _ _ O U J))))
theorem QhS {A:Arr} (j:A.ok):A.slots.length≤64:=by
 have:=List.length_filter_le (λs:St=> !decide (s.state=0)) A.l
 have:=Arr.len64 j
 unfold Arr.slots;omega
theorem QfI {x:Int} {K:Cont} (j: ∀n',K (.bool (decide (0≤x∧x≤3))) g n'):AC Xbt [.int .i64 x] g n K:=by
 refine ACalls.fold Xb ?_
 rw [←JdW]
 simp only [QdC,JA,XbQ,Zi,decide_eq_true_eq,decide_eq_false_iff_not]
 refine ⟨λh=>Ja (Sub.refl _) ?_,λh=>Ja (Sub.refl _) ?_⟩
 ·have k:=j n
  rw [show decide (0≤x∧x≤3)=decide (x≤3) from by rw [decide_eq_decide];omega] at k
  exact k
 ·have k:=j n
  rw [decide_eq_false (by omega)] at k
  exact k
theorem XfQ {e:St} {K:Cont} (E: ∀n',K (.bool (!Qhg e)) g n'):AC Xap [.agg (encS e).toArray] g n K:=by
 refine ACalls.fold Xb ?_
 rw [←Qcb]
 simp only [Qbr,Xe]
 intro j
 refine XgP (s:=e) (Xa _ _ _) ?_
 refine QfI (λn2=> ?_)
 simp only [JG]
 exact Ja ((Sub.refl g).new j _) (E _)
theorem XeF {A:Arr} {lg la ls:Nat} (E:A.ok) (J:AgH g lg la ls A) {K:Cont} (Q: ∀n',K (.bool A.idle) g n'):AC Xae [ptr lg 0] g n K:=by
 refine ACalls.fold Xb ?_
 rw [←QcD]
 simp only [JbX,Zv,Qd,Qb]
 refine Jc rfl (ldA J (Qf3 E J.arr (λV Z n1 j O=> ?_)))
 refine ACalls.fold Xb ?_
 rw [←Xad]
 simp only [JH]
 refine Zaf (λs=> !Qhg s) O (λg' n' e Y U I=> ?_) (by have:=QhS E;omega) (λn2=> ?_)
 ·simp only [Xeh]
  exact XfQ I
 ·have k:=Q n2
  unfold Arr.idle at k
  revert k
  cases (A.slots.findIdx? λs=> !Qhg s) with
  | none=>intro k;simp only [Xev,JA];exact Ja (Sub.refl _) (Ja j k)
  | some i=>intro k;simp only [Xev,JA];exact Ja (Sub.refl _) (by rw [decide_eq_true (by omega)];exact Ja j k)
end
section
open Go.RowKit
variable {g:G} {n:Nat}
structure Out (g g':G) (lg la ls:Nat) (A:Arr) (v:Value) (ms:List Ms):Prop where
 hs:Sub (hide g la ls) g'
 ag:AgH g' lg la ls A
 sl:Sl Zk 12 g' v ms
 fr: ∀l,X4 v=some l→g l=none
theorem Out.of {g0 g g':G} {lg la ls:Nat} {A:Arr} {v:Value} {ms:List Ms} (h:Out g g' lg la ls A v ms) (hs:Sub g0 g):Out g0 g' lg la ls A v ms:=
 ⟨(Jbd hs).trans h.hs,h.ag,h.sl,λl j=>hs.none (h.fr l j)⟩
theorem Out.nil {lg la ls:Nat} {A:Arr} (h:AgH g lg la ls A):Out g g lg la ls A (.slice none 0 0) []:=⟨ZbR _ _ _,h,Sl.nil,λl j=>nomatch j⟩
theorem Out.one {g O I:G} {m:Nat} {lg la ls:Nat} {A A':Arr} {ms:Ms} (h:AgH g lg la ls A) (hs:Sub g O) (E:Sub (hide O la ls) I) (j:ArrH I la ls A') (J:I m=none):
  Out g (upd I m (some (.cells (Zk ms) .exact))) lg la ls A' (.slice (some ⟨m,0,none⟩) 1 1) [ms]:=by
 have hs7:=(Sub.refl I).new J (some (.cells (Zk ms) .exact))
 have Q:=h.mono hs
 have n1:=Qq j.obj J
 have n2:=Qq j.row J
 refine ⟨((Jbd hs).trans E).trans hs7,(Q.next E j).mono hs7,Sl.one (Xj _) (Xa _ _ _),λl U=> ?_⟩
 cases U
 cases hgm:g m with
 | none=>rfl
 | some b=>
  have:=E.live (Z6 n1 n2 (hs.live hgm))
  rw [J] at this;cases this
def XhO (s:St):Ms:=⟨3,s.line,decide (s.state=3),false,if s.state=3 then s.data else zeroL⟩
def XgT (s:St):Int:=if s.state=3 then 9 else 7
def Arr.out (A:Arr) (s:St):List Ms×Arr:=([XhO s],(A.set s.line (XgT s) s.data).2)
theorem Qfv {A:Arr} {lg la ls:Nat} {s:St} (ah:A.ok) (hu:A.used<100000) (hh:AgH g lg la ls A) {K:Cont} (hK: ∀v' g' n',Out g g' lg la ls (A.out s).2 v' (A.out s).1→K v' g' n'):
  AC Q5 [ptr lg 0,.agg (encS s).toArray] g n K:=by
 refine ACalls.fold Xb ?_
 rw [←ZcL]
 simp only [Qcg,Xe]
 intro hn
 have I:=(Sub.refl g).new hn (some (.cells (encS s) .exact))
 have E:=Xa g n (some (.cells (encS s) .exact))
 generalize upd g n (some (.cells (encS s) .exact))=g1 at*
 refine Xil E (Jdn (Jh9 (λg3 Y Q J=> ?_)))
 have V:=I.trans Y
 have j:=Y.live E
 have O:n+1≠n:=by omega
 have j1: ∀(t:Env) (Z:G) (n5:Nat),Sub g Z→Z n=some (.cells (encS s) .exact)→Z (n+1)=some (.cells (Zk (XhO s)) .exact)→t 0=ptr lg 0→t 3=ptr n 0→t 5=ptr (n+1) 0→t 6= .int .i64 (XgT s)→Xam AC K t Z n5:=by
  intro t Z n5 ad E J t0 t3 t5 t6
  have ab:=hh.mono ad
  simp only [Xam,t0,t3,t5,t6,Qd,Qb]
  refine ldA ab (Xil E (Xhz E ?_))
  refine Qdq (d:=s.data) ah hu ab.arr (λg6 n6 aa af=> ?_)
  have ai:=Qq hh.arr.obj (I.none Q)
  have aj:=Qq hh.arr.row (I.none Q)
  refine ldM (aa.live (Z6 ai aj J)) (Xec ?_)
  intro ae
  exact Ja (Sub.refl _) (hK _ _ _ (Out.one hh ad aa af ae))
 refine XgP j ?_
 simp only [Jq,Zi,decide_eq_true_eq,decide_eq_false_iff_not]
 have ac:g (n+1)=none:=I.none Q
 refine ⟨λU=> ?_,λU=> ?_⟩
 ·refine Xhz j ?_
  refine Qz J rfl (by rw [Xj];decide) rfl ?_
  refine ⟨Zd _ _ (λe=>O e.symm),Je _,?_⟩
  refine Jh8 (m:=⟨3,s.line,true,false,zeroL⟩) (Xa _ _ _) ?_
  refine j1 _ _ _ ((V.upd_fresh _ ac).upd_fresh _ ac) ?_ ?_ rfl rfl rfl ?_
  ·rw [Zd _ _ (λe=>O e.symm),Zd _ _ (λe=>O e.symm)];exact j
  ·rw [Xa];unfold XhO;rw [decide_eq_true U,if_pos U]
  ·unfold XgT;rw [if_pos U];rfl
 ·refine j1 _ _ _ V j ?_ rfl rfl rfl ?_
  ·rw [J];unfold XhO;rw [decide_eq_false U,if_neg U]
  ·unfold XgT;rw [if_neg U];rfl
def Arr.ask (A:Arr) (line state kind:Int) (d:Ln):List Ms×Arr:=
 if A.idle=false then ([],A) else
 if state≠6∧(A.room line).1=false then (if (A.room line).2<0 then ([],A) else A.out (A.slot (A.room line).2))
 else ([⟨kind,line,false,false,zeroL⟩],(A.set line state d).2)
theorem Jec {A:Arr} {lg la ls:Nat} {line state kind:Int} {d:Ln} (I:A.ok) (hu:A.used<100000) (hh:AgH g lg la ls A) {K:Cont}
  (J: ∀v' g' n',Out g g' lg la ls (A.ask line state kind d).2 v' (A.ask line state kind d).1→K v' g' n'):
  AC X6 [ptr lg 0,.int .i64 line,.int .i64 state,.int .i64 kind,.agg (Zq d).toArray] g n K:=by
 refine ACalls.fold Xb ?_
 rw [←XcT]
 simp only [Jb9,Xe]
 intro hn
 have E:=(Sub.refl g).new hn (some (.cells (Zq d) .exact))
 have ab:=Xa g n (some (.cells (Zq d) .exact))
 generalize upd g n (some (.cells (Zq d) .exact))=g1 at*
 have j:=hh.mono E
 refine XeF I j (λn2=> ?_)
 simp only [JG,Zi,Bool.not_eq_true',Bool.not_eq_false']
 refine ⟨λZ=> ?_,λZ=> ?_⟩
 ·have e:A.ask line state kind d=([],A):=by unfold Arr.ask;rw [if_pos Z]
  rw [e] at J
  exact Ja (Sub.refl _) (J _ _ _ ((Out.nil j).of E))
 have O: ¬A.idle=false:=by rw [Z];decide
 have j1: ∀(t:Env) (m:Nat),¬(state≠6∧(A.room line).1=false)→t 0=ptr lg 0→t 1= .int .i64 line→t 2= .int .i64 state→t 3= .int .i64 kind→t 9=ptr n 0→X5 AC K t g1 m:=by
  intro t m hc t0 t1 t2 t3 t9
  have e:A.ask line state kind d=([⟨kind,line,false,false,zeroL⟩],(A.set line state d).2):=by unfold Arr.ask;rw [if_neg O,if_neg hc]
  rw [e] at J
  simp only [X5,t0,t1,t2,t3,t9,Qd,Qb]
  refine ldA j (ldL ab ?_)
  refine Qdq (d:=d) I hu j.arr (λg6 n6 aa Y=>Jdn (Xec ?_))
  intro V
  exact Ja (Sub.refl _) (J _ _ _ (Out.one hh E aa Y V))
 simp only [Jal,Zi,decide_eq_true_eq,decide_eq_false_iff_not]
 refine ⟨λU=> ?_,λU=>j1 _ _ (λh=>U h.1) rfl rfl rfl rfl rfl⟩
 simp only [Qd,Qb]
 refine ldA j (JgG I j.arr (λn3=> ?_))
 simp only [Xw,XC,QC,JG,Zi,Bool.not_eq_true',Bool.not_eq_false',Xk,decide_eq_true_eq,decide_eq_false_iff_not]
 refine ⟨λQ=>⟨λhv=> ?_,λhv=>⟨λ_=> ?_,λh=>(by rw [Q] at h;cases h)⟩⟩,λQ=>⟨λh=>(by rw [Q] at h;cases h),λ_=>j1 _ _ (λh=>(by rw [Q] at h;exact absurd h.2 (by decide))) rfl rfl rfl rfl rfl⟩⟩
 ·have e:A.ask line state kind d=([],A):=by unfold Arr.ask;rw [if_neg O,if_pos ⟨U,Q⟩,if_pos hv]
  rw [e] at J
  exact Ja (Sub.refl _) (J _ _ _ ((Out.nil j).of E))
 ·have e:A.ask line state kind d=A.out (A.slot (A.room line).2):=by unfold Arr.ask;rw [if_neg O,if_pos ⟨U,Q⟩,if_neg hv]
  rw [e] at J
  refine find_spec I j (λn4=> ?_)
  exact Qfv I hu j (λv' g' n' ho=>Ja (Sub.refl _) (J _ _ _ (ho.of E)))
end
section
open Go.RowKit
variable {g:G} {n:Nat}
def Jfl (d:Ln) (w:Int):Int:=d.1.getD w.toNat 0
theorem JhP (s:St) {w:Nat} (j:w<8):(encS s)[2+w]? =some (.int .u64 (s.data.1.getD w 0)):=by
 have E:((encS s).drop 2).take 8=Zq s.data:=XeD s
 have I:(((encS s).drop 2).take 8)[w]? =(encS s)[2+w]? :=by rw [List.getElem?_take,if_pos j,List.getElem?_drop]
 rw [←I,E]
 have J:=s.data.2
 unfold Zq
 rw [List.getElem?_map,List.getElem?_eq_getElem (by omega),List.getD_eq_getElem?_getD,List.getElem?_eq_getElem (by omega)]
 rfl
def XhK (s:St):Bool:=decide (s.state=1∨s.state=2∨s.state=3∨s.state=6)
def Arr.loadHit (A:Arr) (line word:Int):Bool:=isW line word&&XhK (A.slot line)
def Arr.loadV (A:Arr) (line word:Int):Int:=if A.loadHit line word then Jfl (A.slot line).data word else 0
def Arr.load (A:Arr) (line word:Int):List Ms×Arr:=
 if isW line word=false then ([],A) else if A.loadHit line word then ([],A.touch line) else A.ask line 4 1 zeroL
theorem Jgm {A:Arr} {lg la ls:Nat} {line word:Int} (J:A.ok) (hu:A.used<100000) (Y:AgH g lg la ls A) {K:Cont}
  (U: ∀v' g' n',Out g g' lg la ls (A.load line word).2 v' (A.load line word).1→K (.tuple #[.int .u64 (A.loadV line word),.bool (A.loadHit line word),v']) g' n'):
  AC JaG [ptr lg 0,.int .i64 line,.int .i64 word] g n K:=by
 refine ACalls.fold Xb ?_
 rw [←ZcH]
 simp only [JbT,Zv]
 refine Jc rfl (Qfh (λn1=> ?_))
 simp only [JG,Zi,Bool.not_eq_true',Bool.not_eq_false']
 refine ⟨λI=> ?_,λI=> ?_⟩
 ·have j:A.loadHit line word=false:=by unfold Arr.loadHit;rw [I];rfl
  have e1:A.loadV line word=0:=by unfold Arr.loadV;rw [j];rfl
  have e2:A.load line word=([],A):=by unfold Arr.load;rw [if_pos I]
  rw [j,e1,e2] at U
  exact Ja (Sub.refl _) (U _ _ _ (Out.nil Y))
 have hw:0≤word∧word<8:=by
  have:=of_decide_eq_true (show isW line word=true from I);omega
 refine find_spec J Y (λn2=>QhE (s:=A.slot line) (λg4 O aa Z=> ?_))
 have E:=Y.mono O
 have j2: ∀(t:Env) (m:Nat),XhK (A.slot line)=false→t 0=ptr lg 0→t 1= .int .i64 line→JaD AC K t g4 m:=by
  intro t m hb t0 t1
  have j:A.loadHit line word=false:=by unfold Arr.loadHit;rw [hb,Bool.and_false]
  have e1:A.loadV line word=0:=by unfold Arr.loadV;rw [j];rfl
  have e2:A.load line word=A.ask line 4 1 zeroL:=by unfold Arr.load;rw [if_neg (by rw [I];decide),j];rfl
  rw [j,e1,e2] at U
  simp only [JaD,t0,t1,Xi]
  exact Jec (d:=zeroL) J hu E (λv' g' n' ho=>Ja (Sub.refl _) (U _ _ _ (ho.of O)))
 have j1: ∀(t:Env) (m:Nat),t 23= .bool (XhK (A.slot line))→t 0=ptr lg 0→t 1= .int .i64 line→t 2= .int .i64 word→t 9=ptr n2 0→ZJ AC K t g4 m:=by
  intro t m ab t0 t1 t2 t9
  simp only [ZJ,ab,t0,t1,t2,t9,Zi,Qd,Qb]
  refine ⟨λhb=> ?_,λhb=>j2 _ _ hb t0 t1⟩
  have j:A.loadHit line word=true:=by unfold Arr.loadHit;rw [hb,I];rfl
  have e1:A.loadV line word=Jfl (A.slot line).data word:=by unfold Arr.loadV;rw [j];rfl
  have e2:A.load line word=([],A.touch line):=by unfold Arr.load;rw [if_neg (by rw [I];decide),j];rfl
  rw [j,e1,e2] at U
  refine ldA E (JfS J hu E.arr (λg5 n5 Q ac=> ?_))
  refine ⟨hw.1,hw.2,?_⟩
  simp only [Qb]
  have V:=Q.live (Z6 (Qq Y.arr.obj aa) (Qq Y.arr.row aa) Z)
  refine Zb V (v:= .int .u64 (Jfl (A.slot line).data word)) ?_ ?_
  ·rw [show 0+2+word.toNat*1=2+word.toNat by omega]
   exact JhP _ (by omega)
  ·refine Ja (Sub.refl _) (U _ _ _ ?_)
   exact ⟨(Jbd O).trans Q,E.next Q ac,Sl.nil,λl hl=>nomatch hl⟩
 refine XgP Z ?_
 simp only [Jq,Zi,decide_eq_true_eq,decide_eq_false_iff_not]
 have hb: ∀{p:Prop} [Decidable p],(p↔XhK (A.slot line)=true)→decide p=XhK (A.slot line):=λh=>by rw [Bool.eq_iff_iff,decide_eq_true_eq];exact h
 have hit:XhK (A.slot line)=true↔(A.slot line).state=1∨(A.slot line).state=2∨(A.slot line).state=3∨(A.slot line).state=6:=by unfold XhK;rw [decide_eq_true_eq]
 refine ⟨λh1=>j1 _ _ ?_ rfl rfl rfl rfl,λh1=>⟨λh2=>j1 _ _ ?_ rfl rfl rfl rfl,λh2=>⟨λh3=>j1 _ _ ?_ rfl rfl rfl rfl,λh3=>j1 _ _ ?_ rfl rfl rfl rfl⟩⟩⟩
 ·show Value.bool (decide _)=_
  rw [hb (by rw [hit];omega)]
 ·show Value.bool (decide _)=_
  rw [hb (by rw [hit];omega)]
 ·show Value.bool (decide _)=_
  rw [hb (by rw [hit];omega)]
 ·show Value.bool (decide _)=_
  rw [hb (by rw [hit];omega)]
def Arr.reach (A:Arr) (line:Int):List Ms×Arr:=
 if isW line 0=false∨A.owns line=true then ([],A) else
 if (A.slot line).state=1 then A.ask line 6 2 (A.slot line).data else A.ask line 5 2 zeroL
theorem Zd2 {A:Arr} {lg la ls:Nat} {line:Int} (j:A.ok) (hu:A.used<100000) (O:AgH g lg la ls A) {K:Cont}
  (E: ∀U g' n',Out g g' lg la ls (A.reach line).2 U (A.reach line).1→K U g' n'):
  AC Q8 [ptr lg 0,.int .i64 line] g n K:=by
 refine ACalls.fold Xb ?_
 rw [←Zcq]
 simp only [JbE,Zv]
 refine Jc rfl (Qfh (λn1=> ?_))
 simp only [JG,Zi,Bool.not_eq_true',Bool.not_eq_false']
 refine ⟨λY=> ?_,λY=>JdI j O (λn2=> ?_)⟩
 ·have e:A.reach line=([],A):=by unfold Arr.reach;rw [if_pos (.inl Y)]
  rw [e] at E
  exact Ja (Sub.refl _) (E _ _ _ (Out.nil O))
 simp only [Zi]
 refine ⟨λI=> ?_,λI=> ?_⟩
 ·have e:A.reach line=([],A):=by unfold Arr.reach;rw [if_pos (.inr I)]
  rw [e] at E
  exact Ja (Sub.refl _) (E _ _ _ (Out.nil O))
 have hc: ¬(isW line 0=false∨A.owns line=true):=by rw [Y,I];decide
 refine find_spec j O (λn3=>QhE (s:=A.slot line) (λg4 J aa Z=> ?_))
 have Q:=O.mono J
 refine XgP Z ?_
 simp only [Jq,Zi,decide_eq_true_eq,decide_eq_false_iff_not]
 refine ⟨λV=> ?_,λV=> ?_⟩
 ·have e:A.reach line=A.ask line 6 2 (A.slot line).data:=by unfold Arr.reach;rw [if_neg hc,if_pos V]
  rw [e] at E
  refine Xhz Z ?_
  exact Jec (d:=(A.slot line).data) j hu Q (λU g' n' I=>Ja (Sub.refl _) (E _ _ _ (I.of J)))
 ·have e:A.reach line=A.ask line 5 2 zeroL:=by unfold Arr.reach;rw [if_neg hc,if_neg V]
  rw [e] at E
  simp only [Xi]
  exact Jec (d:=zeroL) j hu Q (λU g' n' I=>Ja (Sub.refl _) (E _ _ _ (I.of J)))
def Arr.storeHit (A:Arr) (line word:Int):Bool:=isW line word&&A.owns line
def Arr.store (A:Arr) (line word v:Int):List Ms×Arr:=
 if isW line word=false then ([],A) else if A.owns line=false then A.reach line else ([],(A.set line 3 ((A.slot line).data.put word.toNat v)).2)
theorem Zir {l:Nat} {s:St} {w:Int} {v:Int} {K:Value→Nat→Nat→G→Prop} (E:0≤w∧w<8) (h:g l=some (.cells (encS s) .exact))
  (k: ∀p j o,K p j o (upd g l (some (.cells (encS { s with data:=s.data.put w.toNat v }) .exact)))):
  Ji (ptr l (0+2)) (.int .i64 w) 8 1 λp=>Xc p λj o=>kSt g j o (.int .u64 v) (K p j o):=by
 refine ⟨E.1,E.2,?_⟩
 simp only [Qb]
 refine Qz h rfl (by rw [Qh];omega) rfl ?_
 have e:(encS s).set (0+2+w.toNat*1) (.int .u64 v)=encS { s with data:=s.data.put w.toNat v }:=by
  rw [show 0+2+w.toNat*1=w.toNat+2 by omega]
  show ([_,_]++Zq s.data++[_]).set (w.toNat+2) _=[_,_]++Zq (s.data.put w.toNat v)++[_]
  have I:=s.data.2
  have e1:(Zq s.data).set w.toNat (.int .u64 v)=Zq (s.data.put w.toNat v):=by simp [Zq,Ln.put,List.map_set]
  rw [←e1]
  simp only [List.cons_append,List.nil_append,List.set_cons_succ]
  rw [List.set_append,if_pos (by rw [Je];omega)]
 rw [e]
 exact k _ _ _
theorem Zf8 {A:Arr} {lg la ls:Nat} {line word v:Int} (j:A.ok) (hu:A.used<100000) (U:AgH g lg la ls A) {K:Cont}
  (J: ∀v' g' n',Out g g' lg la ls (A.store line word v).2 v' (A.store line word v).1→K (.tuple #[.bool (A.storeHit line word),v']) g' n'):
  AC Zaw [ptr lg 0,.int .i64 line,.int .i64 word,.int .u64 v] g n K:=by
 refine ACalls.fold Xb ?_
 rw [←Xcp]
 simp only [ZbI,Zv]
 refine Jc rfl (Qfh (λn1=> ?_))
 simp only [JG,Zi,Bool.not_eq_true',Bool.not_eq_false']
 refine ⟨λI=> ?_,λI=> ?_⟩
 ·have Q:A.storeHit line word=false:=by unfold Arr.storeHit;rw [I];rfl
  have e:A.store line word v=([],A):=by unfold Arr.store;rw [if_pos I]
  rw [Q,e] at J
  exact Ja (Sub.refl _) (J _ _ _ (Out.nil U))
 have hw:0≤word∧word<8:=by
  have:=of_decide_eq_true (show isW line word=true from I);omega
 have V: ¬isW line word=false:=by rw [I];decide
 refine JdI j U (λn2=> ?_)
 simp only [JG,Zi,Bool.not_eq_true',Bool.not_eq_false']
 refine ⟨λO=> ?_,λO=> ?_⟩
 ·have Q:A.storeHit line word=false:=by unfold Arr.storeHit;rw [O,Bool.and_false]
  have e:A.store line word v=A.reach line:=by unfold Arr.store;rw [if_neg V,if_pos O]
  rw [Q,e] at J
  exact Zd2 j hu U (λv' g' n' h=>Ja (Sub.refl _) (J _ _ _ h))
 ·have Q:A.storeHit line word=true:=by unfold Arr.storeHit;rw [O,I];rfl
  have e:A.store line word v=([],(A.set line 3 ((A.slot line).data.put word.toNat v)).2):=by unfold Arr.store;rw [if_neg V,if_neg (by rw [O];decide)]
  rw [Q,e] at J
  refine find_spec j U (λn3=>QhE (s:=A.slot line) (λg4 ab ac hl=> ?_))
  refine Zir hw hl (λ_ _ _=> ?_)
  have hs7:=ab.upd_fresh (some (.cells (encS { A.slot line with data:=(A.slot line).data.put word.toNat v }) .exact)) ac
  have aa:=Xa g4 n3 (some (.cells (encS { A.slot line with data:=(A.slot line).data.put word.toNat v }) .exact))
  generalize upd g4 n3 (some (.cells (encS { A.slot line with data:=(A.slot line).data.put word.toNat v }) .exact))=g7 at*
  have E:=U.mono hs7
  simp only [Qd,Qb]
  refine ldA E (Xhz aa ?_)
  refine Qdq (d:=(A.slot line).data.put word.toNat v) j hu E.arr (λg8 n8 Y Z=> ?_)
  refine Ja (Sub.refl _) (J _ _ _ ?_)
  exact ⟨(Jbd hs7).trans Y,E.next Y Z,Sl.nil,λl hl=>nomatch hl⟩
end
section
open Go.RowKit
variable {g:G} {n:Nat}
def Xig:List Int:=[0,0,0,1,0,0,1,3,4,4,4,0,0,0,0]
def Xdb (l:List Int):List Value:=l.map (.int .i64 ·)
theorem Xg5 {K:Cont} (j: ∀n',K (.agg (Xdb Xig).toArray) g n'):AC Zec [] g n K:=
 QfX (.agg (Xdb Xig).toArray) 1000 100 (by kernel_rfl) (by kernel_rfl) (by kernel_rfl) j
def turn (k s:Int):Int:=
 if k=14 then -2 else
 if k=8 then (if s=4 then 1 else -1) else
 if k=9 then (if s=4 then 2 else -1) else
 if k=10 then (if s=5∨s=6 then 2 else -1) else
 if k=11 then (if 7≤s then 0 else -1) else
 if k=12 then (if 1≤s∧s≤3 then 0 else if s=6 then 5 else if s=7∨s=9 then 8 else -1) else
 if k=13 then (if s=2∨s=3 then 1 else if s=7∨s=9 then 8 else -1) else -1
def ZhG (k:Nat):List Int:=(List.range 10).map λ(s:Nat)=>turn (k:Int) (s:Int)
def turnsL:List Int:=(List.range 15).flatMap ZhG
theorem JfU {K:Cont} (j: ∀n',K (.agg (Xdb turnsL).toArray) g n'):AC Qcx [] g n K:=
 QfX (.agg (Xdb turnsL).toArray) 1000 100 (by kernel_rfl) (by kernel_rfl) (by kernel_rfl) j
theorem Jg3: ∀k:Fin 15,∀s:Fin 10,(((Xdb turnsL).drop (k.val*10)).take 10)[s.val]? =some (.int .i64 (turn k.val s.val))∧k.val*10+10≤(Xdb turnsL).length:=by
 intro k s
 have h:((turnsL.drop (k.val*10)).take 10)[s.val]? =some (turn k.val s.val)∧k.val*10+10≤turnsL.length:=by
  revert k s;decide +kernel
 unfold Xdb
 rw [←List.map_drop,←List.map_take,List.getElem?_map,h.1,List.length_map]
 exact ⟨rfl,h.2⟩
def Qbt (m:Ms):Bool:=decide (1≤m.kind∧m.kind≤14∧0≤m.line∧m.line<64)&&(!m.dirty||decide (m.kind=3∨m.kind=6∨m.kind=7))&&(!m.kept||decide (m.kind=7))&&
 (m.dirty||decide (m.kind=8∨m.kind=9∨m.kind=10)||decide (m.data=zeroL))
def QeG (k:Int):Bool:=decide (8≤k∧k≤14)
theorem Xf2 {x:Int} {K:Cont} (j: ∀n',K (.bool (QeG x)) g n'):AC Xb9 [.int .i64 x] g n K:=by
 refine ACalls.fold Xb ?_
 rw [←XeQ]
 unfold QeG at j
 simp only [JeC,JA,XbQ,Zi,decide_eq_true_eq,decide_eq_false_iff_not]
 refine ⟨λh=>Ja (Sub.refl _) ?_,λh=>Ja (Sub.refl _) ?_⟩
 ·have k:=j n
  rw [show decide (8≤x∧x≤14)=decide (x≤14) from by rw [decide_eq_decide];omega] at k
  exact k
 ·have k:=j n
  rw [decide_eq_false (by omega)] at k
  exact k
theorem ZgP {l:Nat} {m:Ms} {bk:BK} {K:Value→Prop} (h:g l=some (.cells (Zk m) bk)) (k:K (.int .i64 m.kind)):kLd g l (0+0) K:=Zb h rfl k
theorem Qft {l:Nat} {m:Ms} {bk:BK} {K:Value→Prop} (h:g l=some (.cells (Zk m) bk)) (k:K (.int .i64 m.line)):kLd g l (0+1) K:=Zb h rfl k
theorem Xii {l:Nat} {m:Ms} {bk:BK} {K:Value→Prop} (h:g l=some (.cells (Zk m) bk)) (k:K (.bool m.dirty)):kLd g l (0+2) K:=Zb h rfl k
theorem Qin {l:Nat} {m:Ms} {bk:BK} {K:Value→Prop} (h:g l=some (.cells (Zk m) bk)) (k:K (.bool m.kept)):kLd g l (0+3) K:=Zb h rfl k
theorem QhU {k:Int} (E:1≤k) (j:k≤14) {K:Value→Prop} (kk: ∀b:Int,(b=(if k=3∨k=6 then 1 else if k=7 then 3 else if k=8∨k=9∨k=10 then 4 else 0))→K (.int .i64 b)):
  JdY (.agg (Xdb Xig).toArray) (.int .i64 k) 15 1 none K:=by
 simp only [JdY,Xe,QbG,Xbf]
 refine ⟨by omega,by omega,?_⟩
 have:k=1∨k=2∨k=3∨k=4∨k=5∨k=6∨k=7∨k=8∨k=9∨k=10∨k=11∨k=12∨k=13∨k=14:=by omega
 rcases this with rfl|rfl|rfl|rfl|rfl|rfl|rfl|rfl|rfl|rfl|rfl|rfl|rfl|rfl<;>exact kk _ (by decide)
theorem QcY {m:Ms} {K:Cont} (Z: ∀n',K (.bool (Qbt m)) g n'):AC ZaT [.agg (Zk m).toArray] g n K:=by
 refine ACalls.fold Xb ?_
 rw [←JeX]
 simp only [Jfu,Xe]
 intro hn
 have hs:=(Sub.refl g).new hn (some (.cells (Zk m) .exact))
 have E:=Xa g n (some (.cells (Zk m) .exact))
 generalize upd g n (some (.cells (Zk m) .exact))=g1 at*
 have Q: ∀n',Qbt m=false→Zc K (.bool false) g1 n':=λn' h=>by
  have k:=Z n'
  rw [h] at k
  exact Ja hs k
 have bad: ¬(1≤m.kind∧m.kind≤14∧0≤m.line∧m.line<64)→Qbt m=false:=λh=>by unfold Qbt;rw [decide_eq_false h];rfl
 refine ZgP E ?_
 simp only [Xk,Zi,decide_eq_true_eq,decide_eq_false_iff_not]
 refine ⟨λh=>Q _ (bad (by omega)),λh1=>ZgP E ?_⟩
 simp only [Zbn,Zi,decide_eq_true_eq,decide_eq_false_iff_not]
 refine ⟨λh=>Q _ (bad (by omega)),λh2=>Qft E ?_⟩
 simp only [Xk,Zi,decide_eq_true_eq,decide_eq_false_iff_not]
 refine ⟨λh=>Q _ (bad (by omega)),λh3=>Qft E ?_⟩
 simp only [JA,Zi,decide_eq_true_eq,decide_eq_false_iff_not]
 refine ⟨λh=>Q _ (bad (by omega)),λh4=>ZgP E ?_⟩
 refine Xg5 (λn2=>⟨rfl,QhU (by omega) (by omega) (λb hb=> ?_)⟩)
 have ok:decide (1≤m.kind∧m.kind≤14∧0≤m.line∧m.line<64)=true:=by rw [decide_eq_true_eq];omega
 have bc:b=0∨b=1∨b=3∨b=4:=by
  rw [hb]
  split
  ·omega
  ·split
   ·omega
   ·split<;>omega
 have and1: ∀{K':Value→Prop},K' (.int .i64 (if b=1∨b=3 then 1 else 0))→Jb .int .and (.int .i64 b) (.int .i64 1) K':=by
  intro K' k
  rcases bc with rfl|rfl|rfl|rfl<;>exact ⟨rfl,k⟩
 have J: ∀{K':Value→Prop},K' (.int .i64 (if b=3 then 2 else 0))→Jb .int .and (.int .i64 b) (.int .i64 2) K':=by
  intro K' k
  rcases bc with rfl|rfl|rfl|rfl<;>exact ⟨rfl,k⟩
 have U: ∀{K':Value→Prop},K' (.int .i64 (if b=4 then 4 else 0))→Jb .int .and (.int .i64 b) (.int .i64 4) K':=by
  intro K' k
  rcases bc with rfl|rfl|rfl|rfl<;>exact ⟨rfl,k⟩
 have i1:(b=1∨b=3)↔(m.kind=3∨m.kind=6∨m.kind=7):=by
  rw [hb]
  split
  ·omega
  ·split
   ·omega
   ·split<;>omega
 have i2:b=3↔m.kind=7:=by
  rw [hb]
  split
  ·omega
  ·split
   ·omega
   ·split<;>omega
 have i4:b=4↔(m.kind=8∨m.kind=9∨m.kind=10):=by
  rw [hb]
  split
  ·omega
  ·split
   ·omega
   ·split<;>omega
 have Y: ∀(t:Env) (n':Nat),(m.dirty=true→(m.kind=3∨m.kind=6∨m.kind=7))→(m.kept=true→m.kind=7)→t 1=ptr n 0→t 3= .int .i64 b→XaF AC K t g1 n':=by
  intro t n' hd I t1 t3
  have eg:Qbt m=(m.dirty||decide (m.kind=8∨m.kind=9∨m.kind=10)||decide (m.data=zeroL)):=by
   unfold Qbt
   rw [ok]
   have e1:(!m.dirty||decide (m.kind=3∨m.kind=6∨m.kind=7))=true:=by
    cases h:m.dirty with
    | false=>rfl
    | true=>rw [decide_eq_true (hd h)];rfl
   have e2:(!m.kept||decide (m.kind=7))=true:=by
    cases h:m.kept with
    | false=>rfl
    | true=>rw [decide_eq_true (I h)];rfl
   rw [e1,e2];rfl
  simp only [XaF,t1,t3,Qb]
  refine Xii E ?_
  simp only [Zi]
  refine ⟨λh=>Ja hs ?_,λh=> ?_⟩
  ·have k:=Z n';rw [eg,h] at k;exact k
  refine U ?_
  simp only [Jal,Zi,decide_eq_true_eq,decide_eq_false_iff_not]
  refine ⟨λj=>Ja hs ?_,λj=> ?_⟩
  ·have:b=4:=Classical.byContradiction λe=>by rw [if_neg e] at j;exact absurd rfl j
   have k:=Z n'
   rw [eg,h,decide_eq_true (i4.1 this)] at k;exact k
  ·have: ¬b=4:=by intro e;rw [if_pos e] at j;exact j (by decide)
   refine Qih E ?_
   simp only [Xi]
   refine eqL m.data zeroL _ (Ja hs ?_)
   have k:=Z n'
   rw [eg,h,decide_eq_false (λe=>this (i4.2 e))] at k;exact k
 have kept: ∀(t t2:Env) (n':Nat),(m.dirty=true→(m.kind=3∨m.kind=6∨m.kind=7))→True:=λ_ _ _ _=>trivial
 refine Xii E ?_
 simp only [Zi]
 have O:m.kept=true→b≠3→Qbt m=false:=λh aa=>by
  unfold Qbt
  rw [h,decide_eq_false (λe=>aa (i2.2 e))]
  simp
 have z2: ∀x:Int,(if x=3 then (2:Int) else 0)=0↔x≠3:=by intro x;by_cases e:x=3<;>simp [e]
 refine ⟨λhd=> ?_,λhd=> ?_⟩
 ·refine and1 ?_
  simp only [Jq,Zi,decide_eq_true_eq,decide_eq_false_iff_not]
  refine ⟨λh=>⟨λ_=>Q _ ?_,λh'=>absurd h h'⟩,λh=> ?_⟩
  ·have: ¬(b=1∨b=3):=by intro e;rw [if_pos e] at h;exact absurd h (by decide)
   unfold Qbt
   rw [hd,decide_eq_false (λe=>this (i1.2 e))]
   simp
  ·have V:b=1∨b=3:=Classical.byContradiction λe=>by rw [if_neg e] at h;exact absurd rfl h
   refine Qin E ?_
   simp only [Zi]
   refine ⟨λI=>J ?_,λI=>Y _ _ (λ_=>i1.1 V) (λh=>by rw [I] at h;cases h) rfl rfl⟩
   simp only [Jq,Zi,decide_eq_true_eq,decide_eq_false_iff_not]
   refine ⟨λh=>Q _ (O I ((z2 b).1 h)),λh=>Y _ _ (λ_=>i1.1 V) (λ_=>i2.1 (Classical.byContradiction λe=>absurd ((z2 b).2 e) h)) rfl rfl⟩
 ·refine Qin E ?_
  simp only [Zi]
  refine ⟨λI=>J ?_,λI=>Y _ _ (λh=>by rw [hd] at h;cases h) (λh=>by rw [I] at h;cases h) rfl rfl⟩
  simp only [Jq,Zi,decide_eq_true_eq,decide_eq_false_iff_not]
  refine ⟨λh=>Q _ (O I ((z2 b).1 h)),λh=>Y _ _ (λh=>by rw [hd] at h;cases h) (λ_=>i2.1 (Classical.byContradiction λe=>absurd ((z2 b).2 e) h)) rfl rfl⟩
end
section
open Go.RowKit
variable {g:G} {n:Nat}
theorem newL {d:Ln} {K:Nat→G→Nat→Prop} (k: ∀j,Sub g j→g n=none→j n=some (.cells (Zq d) .exact)→K n j (n+1)):
  Zl (Zq zeroL) .exact g n λl J n1=>Jj (.agg (Zq d).toArray) λI=>I.length=8∧Qu J l 0 I λj=>K l j n1:=by
 intro E
 simp only [Xe]
 refine ⟨Je _,Xt (Xa _ _ _) rfl (by rw [Je,Je];decide) (ZM _) ?_⟩
 rw [Jw (by rw [Je,Je])]
 exact k _ (((Sub.refl g).new E _).upd_fresh _ E) E (Xa _ _ _)
theorem Zim {l:Nat} {c d:Ln} {K:G→Prop} (h:g l=some (.cells (Zq c) .exact)) (k:K (upd g l (some (.cells (Zq d) .exact)))):Qu g l 0 (Zq d) K:=by
 refine Xt h rfl (by rw [Je,Je];decide) (ZM _) ?_
 rw [Jw (by rw [Je,Je])]
 exact k
def dr (s:St):Bool:=decide (s.state=3∨s.state=9)
def Je1 (m:Ms) (s:St) (next:Int):List Ms:=
 if m.kind=12 then [⟨6,m.line,dr s,false,if dr s then s.data else zeroL⟩] else
 if m.kind=13 then [⟨7,m.line,dr s,decide (next=1),if dr s then s.data else zeroL⟩] else []
theorem Xdu {m:Ms} {s:St} {next:Int} {K:Cont} (hK: ∀v' g' n',Sub g g'→Sl Zk 12 g' v' (Je1 m s next)→(∀l,X4 v'=some l→g l=none)→K v' g' n'):
  AC QaN [.agg (Zk m).toArray,.agg (encS s).toArray,.int .i64 next] g n K:=by
 refine ACalls.fold Xb ?_
 rw [←QdA]
 simp only [Zdc,Xe]
 intro hn
 have ai:=(Sub.refl g).new hn (some (.cells (Zk m) .exact))
 have ah:=Xa g n (some (.cells (Zk m) .exact))
 generalize upd g n (some (.cells (Zk m) .exact))=g1 at*
 intro al
 have O:=(Sub.refl g1).new al (some (.cells (encS s) .exact))
 have ak:=Xa g1 (n+1) (some (.cells (encS s) .exact))
 generalize upd g1 (n+1) (some (.cells (encS s) .exact))=g2 at*
 refine Qft (O.live ah) (Xg2 (Jh9 (λg4 Y aj ab=> ?_)))
 have V:=ai.trans (O.trans Y)
 have hn7g:g (n+1+1)=none:=(ai.trans O).none aj
 have Q:=Y.live ak
 have j2: ∀(t:Env) (j:G) (n5:Nat) (x:Ms),Sub g j→j (n+1+1)=some (.cells (Zk x) .exact)→Je1 m s next=[x]→t 7=ptr (n+1+1) 0→Zac AC K t j n5:=by
  intro t j n5 x I hl hx U
  simp only [Zac,U,Qb]
  refine ldM hl (Xec ?_)
  intro aa
  have am:=(Sub.refl j).new aa (some (.cells (Zk x) .exact))
  refine Ja (Sub.refl _) (hK _ _ _ (I.trans am) ?_ ?_)
  ·rw [hx];exact Sl.one (Xj _) (Xa _ _ _)
  ·intro l hl;cases hl;exact I.none aa
 have j1: ∀(t:Env) (j:G) (n5:Nat) (x:Ms),Sub g j→j (n+1)=some (.cells (encS s) .exact)→j (n+1+1)=some (.cells (Zk x) .exact)→x.dirty=false→x.data=zeroL→
   Je1 m s next=[{ x with dirty:=dr s,data:=if dr s then s.data else zeroL }]→t 4=ptr (n+1) 0→t 7=ptr (n+1+1) 0→QaQ AC K t j n5:=by
  intro t j n5 x I h4 h7 ac af hx t4 U
  simp only [QaQ,t4,U,Qb]
  have ad:dr s=true→ ∀(t:Env) ,t 7=ptr (n+1+1) 0→Zac AC K t (upd (upd j (n+1+1) (some (.cells ((Zk x).set (0+2) (.bool true)) .exact))) (n+1+1) (some (.cells (Zk { { x with dirty:=true } with data:=s.data }) .exact))) n5:=by
   intro hd t U
   refine j2 _ _ _ { { x with dirty:=true } with data:=s.data } ((I.upd_fresh _ hn7g).upd_fresh _ hn7g) (Xa _ _ _) ?_ U
   rw [hx,hd];rfl
  have ae:n+1≠n+1+1:=by omega
  refine XgP h4 ?_
  simp only [Jq,Zi,decide_eq_true_eq,decide_eq_false_iff_not]
  refine ⟨λh3=> ?_,λh3=>XgP h4 ?_⟩
  ·refine Xhz h4 (Qz h7 rfl (by rw [Xj];decide) rfl ?_)
   refine ⟨Zd _ _ ae,Je _,?_⟩
   refine Jh8 (m:={ x with dirty:=true }) (Xa _ _ _) ?_
   exact ad (by unfold dr;rw [decide_eq_true_eq];exact .inl h3) _ U
  ·simp only [Jq,Zi,decide_eq_true_eq,decide_eq_false_iff_not]
   refine ⟨λh9=> ?_,λh9=> ?_⟩
   ·refine Xhz h4 (Qz h7 rfl (by rw [Xj];decide) rfl ?_)
    refine ⟨Zd _ _ ae,Je _,?_⟩
    refine Jh8 (m:={ x with dirty:=true }) (Xa _ _ _) ?_
    exact ad (by unfold dr;rw [decide_eq_true_eq];exact .inr h9) _ U
   ·have hd:dr s=false:=by unfold dr;rw [decide_eq_false_iff_not];omega
    refine j2 _ _ _ x I h7 ?_ U
    rw [hx,hd]
    cases x
    simp only at ac af
    subst ac af
    rfl
 have E:n+1≠n+1+1:=by omega
 refine ZgP (Y.live (O.live ah)) ?_
 simp only [Jq,Zi,decide_eq_true_eq,decide_eq_false_iff_not]
 refine ⟨λJ=> ?_,λJ=>⟨λZ=> ?_,λZ=> ?_⟩⟩
 ·refine Qz ab rfl (by rw [Xj];decide) rfl ?_
  refine j1 _ _ _ ⟨6,m.line,false,false,zeroL⟩ (V.upd_fresh _ hn7g) (by rw [Zd _ _ E];exact Q) (by rw [Xa];rfl) rfl rfl ?_ rfl rfl
  unfold Je1;rw [if_pos J]
 ·refine Qz ab rfl (by rw [Xj];decide) rfl ?_
  refine Qz (Xa _ _ _) rfl (by simp [Xj]) rfl ?_
  refine j1 _ _ _ ⟨7,m.line,false,decide (next=1),zeroL⟩ ((V.upd_fresh _ hn7g).upd_fresh _ hn7g) (by rw [Zd _ _ E,Zd _ _ E];exact Q) (by rw [Xa];rfl) rfl rfl ?_ rfl rfl
  unfold Je1;rw [if_neg J,if_pos Z]
 ·have e:Je1 m s next=[]:=by unfold Je1;rw [if_neg J,if_neg Z]
  rw [e] at hK
  exact Ja (Sub.refl _) (hK _ _ _ V Sl.nil (λl hl=>nomatch hl))
def XgC (m:Ms) (s:St) (next:Int):Ln:=if m.kind=8∨m.kind=9∨m.kind=10 then m.data else if next=5∨next=8 then zeroL else s.data
def Arr.hear (A:Arr) (m:Ms):List Ms×Arr×Int:=
 if Qbt m=false∨QeG m.kind=false then ([],A,1) else
 if turn m.kind (A.slot m.line).state= -1 then ([],A,16) else
 if turn m.kind (A.slot m.line).state= -2 then ([],A,0) else
 if turn m.kind (A.slot m.line).state=0 then (Je1 m (A.slot m.line) 0,A.drop m.line,0) else
 (Je1 m (A.slot m.line) (turn m.kind (A.slot m.line).state),(A.set m.line (turn m.kind (A.slot m.line).state) (XgC m (A.slot m.line) (turn m.kind (A.slot m.line).state))).2,0)
theorem XfT {A:Arr} (j:A.ok) (J:A.wf) (line:Int):0≤(A.slot line).state∧(A.slot line).state≤9:=by
 unfold Arr.slot Arr.find
 cases ha:A.at line with
 | none=>exact ⟨by show (0:Int)≤0;decide,by show (0:Int)≤9;decide⟩
 | some k=>
  obtain ⟨t,O,E,_,I⟩:=Arr.at_some j ha
  have:=J.place _ _ O E
  show 0≤(A.slotAt line k).state∧(A.slotAt line k).state≤9
  rw [I];omega
theorem ZgL {A:Arr} {lg la ls:Nat} {m:Ms} (ai:A.ok) (hw:A.wf) (hu:A.used<100000) (hh:AgH g lg la ls A) {K:Cont}
  (Y: ∀v' g' n',Out g g' lg la ls (A.hear m).2.1 v' (A.hear m).1→K (.tuple #[v',.int .i64 (A.hear m).2.2]) g' n'):
  AC ZaE [ptr lg 0,.agg (Zk m).toArray] g n K:=by
 refine ACalls.fold Xb ?_
 rw [←QcB]
 simp only [Zb1,Xe]
 intro hn
 have aj:=(Sub.refl g).new hn (some (.cells (Zk m) .exact))
 have I:=Xa g n (some (.cells (Zk m) .exact))
 generalize upd g n (some (.cells (Zk m) .exact))=g1 at*
 have ae:=hh.mono aj
 simp only [Zv]
 refine Jc rfl (ldM I (QcY (λn2=> ?_)))
 simp only [JG,Zi,Bool.not_eq_true',Bool.not_eq_false']
 refine ⟨λhg=> ?_,λhg=>ZgP I (Xf2 (λn3=> ?_))⟩
 ·have e:A.hear m=([],A,1):=by unfold Arr.hear;rw [if_pos (.inl hg)]
  rw [e] at Y
  exact Ja (Sub.refl _) (Y _ _ _ ((Out.nil ae).of aj))
 simp only [JG,Zi,Bool.not_eq_true',Bool.not_eq_false']
 refine ⟨λht=> ?_,λht=>Qft I (find_spec ai ae (λn4=>QhE (s:=A.slot m.line) (λg6 am aq J=> ?_)))⟩
 ·have e:A.hear m=([],A,1):=by unfold Arr.hear;rw [if_pos (.inr ht)]
  rw [e] at Y
  exact Ja (Sub.refl _) (Y _ _ _ ((Out.nil ae).of aj))
 have hc: ¬(Qbt m=false∨QeG m.kind=false):=by rw [hg,ht];decide
 have aB:=XfT ai hw m.line
 have aA:8≤m.kind∧m.kind≤14:=of_decide_eq_true (show QeG m.kind=true from ht)
 unfold Arr.hear at Y
 rw [if_neg hc] at Y
 generalize A.slot m.line=s at*
 refine ZgP (am.live I) (XgP J (JfU (λn7=>⟨rfl,rfl,?_⟩)))
 have Z:=Jg3 ⟨m.kind.toNat,by omega⟩ ⟨s.state.toNat,by omega⟩
 simp only at Z
 rw [show ((m.kind.toNat:Nat):Int)=m.kind by omega,show ((s.state.toNat:Nat):Int)=s.state by omega] at Z
 generalize turn m.kind s.state=next at*
 simp only [JdY,Xe,QbG,Xbf]
 refine ⟨by omega,by omega,Z.2,by omega,by omega,Jci (by rw [Nat.mul_one];exact Z.1) ?_⟩
 have av:=aj.trans am
 refine Xhz J (newL (λg9 ap V O=> ?_))
 have hs9g:=av.trans ap
 have aa:=ap.live (am.live I)
 have ad:=ap.live J
 have ab:=hh.mono hs9g
 have hn8g:g n7=none:=av.none V
 have ay:n≠n4:=Qq (I) aq |> λh=>λe=>h e.symm
 have ar:n≠n7:=λe=>by rw [←e] at V;rw [am.live I] at V;cases V
 have au:n4≠n7:=λe=>by rw [←e] at V;rw [J] at V;cases V
 have ak:=And.intro (Qq hh.arr.obj hn) (Qq hh.arr.row hn)
 have al:=And.intro (Qq ae.arr.obj aq) (Qq ae.arr.row aq)
 have j4: ∀(t:Env) (E:G) (n10:Nat),¬next= -1→ ¬next= -2→ ¬next=0→Sub g E→E n=some (.cells (Zk m) .exact)→E n4=some (.cells (encS s) .exact)→E n7=some (.cells (Zq (XgC m s next)) .exact)→
   t 0=ptr lg 0→t 3=ptr n 0→t 6=ptr n4 0→t 7= .int .i64 next→t 8=ptr n7 0→Zah AC K t E n10:=by
  intro t E n10 c1 c2 c3 j I J O t0 t3 t6 t7 t8
  rw [if_neg c1,if_neg c2,if_neg c3] at Y
  have Q:=hh.mono j
  simp only [Zah,t0,t3,t6,t7,t8,Qd,Qb]
  refine ldA Q (Qft I (ldL O ?_))
  refine Qdq (d:=XgC m s next) ai hu Q.arr (λaC az U af=> ?_)
  refine ldM (U.live (Z6 ak.1 ak.2 I)) (ldS (x:=s) (U.live (Z6 al.1 al.2 J)) ?_)
  refine Xdu (λv' g' n' ac an ao=>Ja (Sub.refl _) (Y _ _ _ ?_))
  refine ⟨((Jbd j).trans U).trans ac,(Q.next U af).mono ac,an,λl hl=> ?_⟩
  have h1:=ao l hl
  cases hgl:g l with
  | none=>rfl
  | some b=>
   have n1:=Qq af.obj h1
   have n2:=Qq af.row h1
   have:=U.live (Z6 n1 n2 (j.live hgl))
   rw [h1] at this;cases this
 have j3: ∀(t:Env) (E:G) (n10:Nat) (c:Ln),¬next= -1→ ¬next= -2→ ¬next=0→Sub g E→E n=some (.cells (Zk m) .exact)→E n4=some (.cells (encS s) .exact)→E n7=some (.cells (Zq c) .exact)→
   (c=if next=5∨next=8 then zeroL else s.data)→t 59= .bool (decide (m.kind=8∨m.kind=9∨m.kind=10))→t 0=ptr lg 0→t 3=ptr n 0→t 6=ptr n4 0→t 7= .int .i64 next→t 8=ptr n7 0→Z0 AC K t E n10:=by
  intro t E n10 c c1 c2 c3 j I J O ah aw t0 t3 t6 t7 t8
  simp only [Z0,aw,t3,t8,Zi,decide_eq_true_eq,decide_eq_false_iff_not,Qb]
  refine ⟨λhk=> ?_,λhk=> ?_⟩
  ·refine Qih I ?_
   simp only [Xe]
   refine ⟨Je _,Zim O ?_⟩
   refine j4 _ _ _ c1 c2 c3 (j.upd_fresh _ hn8g) (by rw [Zd _ _ ar];exact I) (by rw [Zd _ _ au];exact J) ?_ t0 t3 t6 t7 t8
   rw [Xa];unfold XgC;rw [if_pos hk]
  ·refine j4 _ _ _ c1 c2 c3 j I J ?_ t0 t3 t6 t7 t8
   rw [O];unfold XgC;rw [if_neg hk,ah]
 have j2: ∀(t:Env) (E:G) (n10:Nat) (c:Ln),¬next= -1→ ¬next= -2→ ¬next=0→Sub g E→E n=some (.cells (Zk m) .exact)→E n4=some (.cells (encS s) .exact)→E n7=some (.cells (Zq c) .exact)→
   (c=if next=5∨next=8 then zeroL else s.data)→t 0=ptr lg 0→t 3=ptr n 0→t 6=ptr n4 0→t 7= .int .i64 next→t 8=ptr n7 0→Jaf AC K t E n10:=by
  intro t E n10 c c1 c2 c3 j I J O ah t0 t3 t6 t7 t8
  simp only [Jaf,t3,Qb]
  refine ZgP I ?_
  simp only [Jq,Zi,decide_eq_true_eq,decide_eq_false_iff_not]
  have hb: ∀{p:Prop} [Decidable p],(p↔(m.kind=8∨m.kind=9∨m.kind=10))→Value.bool (decide p)= .bool (decide (m.kind=8∨m.kind=9∨m.kind=10)):=λh=>by congr 1;rw [decide_eq_decide];exact h
  refine ⟨λh8=>j3 _ _ _ c c1 c2 c3 j I J O ah ?_ t0 t3 t6 t7 t8,λh8=>⟨λh9=>j3 _ _ _ c c1 c2 c3 j I J O ah ?_ t0 t3 t6 t7 t8,λh9=>j3 _ _ _ c c1 c2 c3 j I J O ah ?_ t0 t3 t6 t7 t8⟩⟩
  ·exact hb (by omega)
  ·exact hb (by omega)
  ·exact hb (by omega)
 have j1: ∀(t:Env) (n10:Nat),¬next= -1→ ¬next= -2→ ¬next=0→t 53= .bool (decide (next=5∨next=8))→t 0=ptr lg 0→t 3=ptr n 0→t 6=ptr n4 0→t 7= .int .i64 next→t 8=ptr n7 0→Zae AC K t g9 n10:=by
  intro t n10 c1 c2 c3 ax t0 t3 t6 t7 t8
  simp only [Zae,ax,t8,Zi,decide_eq_true_eq,decide_eq_false_iff_not,Xi,Qb,Xe]
  refine ⟨λh5=>⟨rfl,Zim (d:=zeroL) O ?_⟩,λh5=> ?_⟩
  ·exact j2 _ _ _ zeroL c1 c2 c3 (hs9g.upd_fresh _ hn8g) (by rw [Zd _ _ ar];exact aa) (by rw [Zd _ _ au];exact ad) (Xa _ _ _) (by rw [if_pos h5]) t0 t3 t6 t7 t8
  ·exact j2 _ _ _ s.data c1 c2 c3 hs9g aa ad O (by rw [if_neg h5]) t0 t3 t6 t7 t8
 simp only [Jq,Zi,decide_eq_true_eq,decide_eq_false_iff_not]
 refine ⟨λc1=> ?_,λc1=>⟨λc2=> ?_,λc2=>⟨λc3=> ?_,λc3=> ?_⟩⟩⟩
 ·rw [if_pos c1] at Y
  exact Ja (Sub.refl _) (Y _ _ _ ((Out.nil ab).of hs9g))
 ·rw [if_neg c1,if_pos c2] at Y
  exact Ja (Sub.refl _) (Y _ _ _ ((Out.nil ab).of hs9g))
 ·rw [if_neg c1,if_neg c2,if_pos c3] at Y
  subst c3
  simp only [Qd,Qb]
  refine ldA ab (Qft aa ?_)
  refine Jgf ai ab.arr (λE n10 j Q=> ?_)
  refine ldM (j.live (Z6 ak.1 ak.2 aa)) (ldS (x:=s) (j.live (Z6 al.1 al.2 ad)) ?_)
  refine Xdu (λv' g' n' ac an ao=>Ja (Sub.refl _) (Y _ _ _ ?_))
  refine ⟨((Jbd hs9g).trans j).trans ac,(ab.next j Q).mono ac,an,λl hl=> ?_⟩
  have h1:=ao l hl
  cases hgl:g l with
  | none=>rfl
  | some b=>
   have n1:=Qq Q.obj h1
   have n2:=Qq Q.row h1
   have:=j.live (Z6 n1 n2 (hs9g.live hgl))
   rw [h1] at this;cases this
 ·refine ⟨λh5=>j1 _ _ c1 c2 c3 ?_ rfl rfl rfl rfl rfl,λh5=>j1 _ _ c1 c2 c3 ?_ rfl rfl rfl rfl rfl⟩
  ·show Value.bool (decide (next=5))=_
   congr 1;rw [decide_eq_decide];omega
  ·show Value.bool (decide (next=8))=_
   congr 1;rw [decide_eq_decide];omega
def Arr.evict (A:Arr) (line:Int):List Ms×Arr×Int:=
 if A.idle=false then ([],A,15) else if (A.slot line).state=0 then ([],A,14) else ((A.out (A.slot line)).1,(A.out (A.slot line)).2,0)
theorem Xf5 {A:Arr} {lg la ls:Nat} {line:Int} (j:A.ok) (hu:A.used<100000) (Q:AgH g lg la ls A) {K:Cont}
  (I: ∀Y g' n',Out g g' lg la ls (A.evict line).2.1 Y (A.evict line).1→K (.tuple #[Y,.int .i64 (A.evict line).2.2]) g' n'):
  AC Zax [ptr lg 0,.int .i64 line] g n K:=by
 refine ACalls.fold Xb ?_
 rw [←Jco]
 simp only [JbI,Zv]
 refine Jc rfl (XeF j Q (λn1=> ?_))
 simp only [JG,Zi,Bool.not_eq_true',Bool.not_eq_false']
 refine ⟨λV=> ?_,λV=>find_spec j Q (λn2=>QhE (s:=A.slot line) (λg4 E aa Z=>XgP Z ?_))⟩
 ·have e:A.evict line=([],A,15):=by unfold Arr.evict;rw [if_pos V]
  rw [e] at I
  exact Ja (Sub.refl _) (I _ _ _ (Out.nil Q))
 have J: ¬A.idle=false:=by rw [V];decide
 have O:=Q.mono E
 simp only [Jq,Zi,decide_eq_true_eq,decide_eq_false_iff_not]
 refine ⟨λU=> ?_,λU=>ldS (x:=A.slot line) Z ?_⟩
 ·have e:A.evict line=([],A,14):=by unfold Arr.evict;rw [if_neg J,if_pos U]
  rw [e] at I
  exact Ja (Sub.refl _) (I _ _ _ ((Out.nil O).of E))
 ·have e:A.evict line=((A.out (A.slot line)).1,(A.out (A.slot line)).2,0):=by unfold Arr.evict;rw [if_neg J,if_neg U]
  rw [e] at I
  exact Qfv j hu O (λY g' n' ho=>Ja (Sub.refl _) (I _ _ _ (ho.of E)))
theorem ZfO {s w:Int} {K:Cont} (j:Zf5 s w) (Y: ∀lg la ls g' n',Sub g g'→g lg=none→g la=none→g ls=none→AgH g' lg la ls (Xfx s.toNat w.toNat)→K (.tuple #[ptr lg 0,.int .i64 0]) g' n'):AC Qcd [.int .i64 s,.int .i64 w] g n K:=by
 refine ACalls.fold Xb ?_
 rw [←ZeE]
 simp only [JeA]
 refine Jhg (λh=>absurd j h) (λ_ la ls V n1 E Q U O=> ?_)
 simp only [Xw,XC,QC,Jal]
 refine Jc (by simp) ?_
 refine ⟨rfl,by simp,?_⟩
 simp only [Xi,Xe]
 intro J
 have I:=(Sub.refl V).new J (some (.cells [ptr la 0] .exact))
 exact Ja (Sub.refl _) (Y _ _ _ _ _ (E.trans I) (E.none J) Q U ⟨Xa _ _ _,O.mono I,Qq O.obj J,Qq O.row J⟩)
end
section
open Go.RowKit
variable {g:G} {n:Nat}
theorem JgL {l off:Nat} {cs:List Value} {bk:BK} {v:Value} {ms:List Ms} (E:g l=some (.cells cs bk)) (j:cs[off]? =some v) (hs:Sl Zk 12 g v ms) {K:Cont} (I: ∀n',K (.int .i64 ms.length) g n'):AC XaA [ptr l off] g n K:=by
 refine ACalls.fold Xb ?_
 rw [←Xdl]
 simp only [JcL]
 rw [Zv]
 refine Jc rfl ?_
 rw [Qd,Qb]
 refine Zb E (by simpa using j) ?_
 exact hs.len (Ja (Sub.refl _) (I _))
theorem stM {l:Nat} {m z:Ms} {K:G→Prop} (h:g l=some (.cells (Zk z) .exact)) (k:upd g l (some (.cells (Zk m) .exact)) l=some (.cells (Zk m) .exact)→K (upd g l (some (.cells (Zk m) .exact)))):(Zk m).length=12∧Qu g l 0 (Zk m) K:=by
 refine ⟨Xj _,Xt h rfl (by rw [Xj,Xj];decide) (Xb4 _) ?_⟩
 rw [Jw (by rw [Xj,Xj])]
 exact k (Xa _ _ _)
theorem JeH {l off:Nat} {cs:List Value} {bk:BK} {v:Value} {ms:List Ms} (J:g l=some (.cells cs bk)) (U:cs[off]? =some v) (hs:Sl Zk 12 g v ms) {K:Cont}
  (Q: ∀g' n',Sub g g'→K (.tuple #[.agg (Zk (ms.headD Xm)).toArray,.bool (!ms.isEmpty)]) g' n'):AC Zad [ptr l off] g n K:=by
 refine ACalls.fold Xb ?_
 rw [←Xc8]
 simp only [Qcw,Xi]
 intro I
 have E:Sub g (upd g n (some (.cells (Zk Xm) .exact))):=(Sub.refl g).new I _
 have O:upd g n (some (.cells (Zk Xm) .exact)) n=some (.cells (Zk Xm) .exact):=Xa _ _ _
 change AC XaA [ptr l off] (upd g n (some (.cells (Zk Xm) .exact))) (n+1) _
 refine JgL (E.live J) U (hs.mono E) (λn2=> ?_)
 rw [Jq]
 cases ms with
 | nil=>
  refine Ze rfl ?_
  change Jj (.agg (Zk Xm).toArray) _
  rw [Xe]
  refine stM O (λh=> ?_)
  refine ldM h ?_
  exact Ja (Sub.refl _) (Q _ _ (E.upd_fresh _ I))
 | cons m ms=>
  refine Jc (decide_eq_false (by simp;omega)) ?_
  rw [Qd,Qb]
  refine Zb (E.live J) (by simpa using U) ?_
  refine (hs.mono E).idx (j:=0) Xj rfl (λl2 Y V=> ?_)
  rw [Qb]
  refine V.ldN (by rw [Xj]) ?_
  rw [Xe]
  refine stM O (λh=> ?_)
  refine ldM h ?_
  exact Ja (Sub.refl _) (Q _ _ (E.upd_fresh _ I))
theorem Qh8 {vs:List Value} {i:Nat} {v:Value} {K:Value→Prop} (h:vs[i]? =some v) (k:K v):Qc (.tuple vs.toArray) i K:=Jci h k
theorem Zgq {cs:List Value} {off:Nat} {v:Value} (h:cs[off]? =some v):cs.set off v=cs:=by
 apply List.ext_getElem?
 intro i
 rw [List.getElem?_set]
 split
 ·rename_i e;subst e;split
  ·exact h.symm
  ·rename_i j;rw [List.getElem?_eq_none (by omega)]
 ·rfl
variable {T:Type} {o:Col T} {c d:T}
theorem Zeo {l off:Nat} {cs:List Value} {bk:BK} {v:Value} {ms:List Ms} (Z:Live o g) (hg:g l=some (.cells cs bk)) (hr:bk.rw=true) (hd:o l=some d) (ai:c≠d) (hv:cs[off]? =some v) (hq:QV Zk 12 o c g v ms) {K:Cont}
  (hK: ∀g' n' v',Kept (· =d) o o g g'→Live o g'→g' l=some (.cells (cs.set off v') bk)→QV Zk 12 o c g' v' ms.tail→K (.tuple #[.agg (Zk (ms.headD Xm)).toArray,.bool (!ms.isEmpty)]) g' n'):AC Qy [ptr l off] g n K:=by
 refine ACalls.fold Xb ?_
 rw [←Qdm]
 simp only [XcZ]
 intro O
 have s1:Sub g (upd g n (some (.cells (Zk Xm) .exact))):=(Sub.refl g).new O _
 have hz:upd g n (some (.cells (Zk Xm) .exact)) n=some (.cells (Zk Xm) .exact):=Xa _ _ _
 change AC Zad [ptr l off] (upd g n (some (.cells (Zk Xm) .exact))) (n+1) _
 refine JeH (s1.live hg) hv ((hq.sl Xj).mono s1) (λg2 n2 s2=> ?_)
 refine Qh8 (vs:=[.agg (Zk (ms.headD Xm)).toArray,.bool (!ms.isEmpty)]) rfl (Qh8 (vs:=[.agg (Zk (ms.headD Xm)).toArray,.bool (!ms.isEmpty)]) rfl ?_)
 have aa:=s1.trans s2
 refine Jh9 (λg3 s3 E h3=> ?_)
 have j:=aa.trans s3
 have U:=s3.live (s2.live hz)
 have J:o n=none:=Z.fresh O
 have ak:n≠n2:=λe=>by rw [←e] at E;rw [s2.live hz] at E;cases E
 have ab: ∀(I:G) (t:Env) (m:Nat) (v':Value),t 4=ptr n2 0→t 2=ptr n 0→t 5= .bool (!ms.isEmpty)→I n2=some (.cells (Zk (ms.headD Xm)) .exact)→I n=some (.cells (Zk Xm) .exact)→Kept (· =d) o o g I→Live o I→I l=some (.cells (cs.set off v') bk)→QV Zk 12 o c I v' ms.tail→QaB AC K t I m:=by
  intro I t m v' t4 t2 t5 h4 ae hk hl af aj
  simp only [QaB,t4,t2,t5,Qb]
  refine ldM h4 ?_
  rw [Xe]
  refine stM ae (λh=> ?_)
  refine ldM h ?_
  have ac:l≠n:=λe=>by rw [e] at hd;rw [J] at hd;cases hd
  refine Ja (Sub.refl _) (hK _ _ v' (hk.fresh O J _) (hl.upd _ _) (by rw [Zd _ _ ac];exact af) ?_)
  exact aj.of_upd J
 cases ms with
 | nil=>
  refine Jc rfl ?_
  refine ab g3 _ _ v rfl rfl rfl h3 U (Kept.of_sub Z j) (Z.sub j) ?_ (hq.of_sub j)
  rw [Zgq hv];exact j.live hg
 | cons m ms=>
  refine Ze rfl ?_
  have V:=j.live hg
  rw [Qd,Qb]
  refine Zb V (by simpa using hv) ?_
  refine (hq.of_sub j).tail Xj (λv' Y=> ?_)
  rw [Qd,Qb]
  have Q:off<cs.length:=Xg hv
  refine Qz V hr (by simpa using Q) Y.cellOk ?_
  have e:cs.set (off+0) v'=cs.set off v':=by rw [Nat.add_zero]
  rw [e]
  have ah:n2≠l:=λe=>by rw [e,aa.live hg] at E;cases E
  have ad:n≠l:=λe=>by rw [e,hg] at O;cases O
  refine ab _ _ _ v' rfl rfl rfl (by rw [Zd _ _ ah];exact h3) (by rw [Zd _ _ ad];exact U) ((Kept.of_sub Z j).trans (Kept.upd (t:=(· =d)) hd rfl _)) ((Z.sub j).upd _ _) (Xa _ _ _) ?_
  exact Y.kept (Kept.upd (t:=(· =d)) hd rfl _) ai
def Qa3 (ms:List Ms) (m:Ms):List Ms×Int:=if Qbt m=false then (ms,11) else if 1000≤ms.length then (ms,13) else (ms++[m],0)
theorem Xds {l off:Nat} {cs:List Value} {bk:BK} {v:Value} {ms:List Ms} {m:Ms} (hL:Live o g) (hg:g l=some (.cells cs bk)) (hr:bk.rw=true) (hd:o l=some d) (aa:c≠d) (hv:cs[off]? =some v) (hq:QV Zk 12 o c g v ms) {K:Cont}
  (hK: ∀o' g' n' v',Kept (λx=>x=c∨x=d) o o' g g'→Live o' g'→o' l=some d→g' l=some (.cells (cs.set off v') bk)→QV Zk 12 o' c g' v' (Qa3 ms m).1→K (.int .i64 (Qa3 ms m).2) g' n'):AC Qs [ptr l off,.agg (Zk m).toArray] g n K:=by
 refine ACalls.fold Xb ?_
 rw [←Xc4]
 simp only [Xcx,Xe]
 intro hn
 have I:Sub g (upd g n (some (.cells (Zk m) .exact))):=(Sub.refl g).new hn _
 have hm:upd g n (some (.cells (Zk m) .exact)) n=some (.cells (Zk m) .exact):=Xa _ _ _
 generalize upd g n (some (.cells (Zk m) .exact))=Q at I hm
 rw [Zv]
 refine Jc rfl ?_
 refine ldM hm ?_
 refine QcY (λn2=> ?_)
 rw [JG]
 have J:=hL.sub I
 have same: ∀e:Int,Qa3 ms m=(ms,e)→Zc K (.int .i64 e) Q n2:=by
  intro e he
  rw [he] at hK
  exact Ja (Sub.refl _) (hK o _ _ v (Kept.of_sub hL I) J hd (by rw [Zgq hv];exact I.live hg) (hq.of_sub I))
 by_cases hgm:Qbt m=false
 ·refine Ze (by rw [hgm];rfl) ?_
  exact same 11 (by unfold Qa3;rw [if_pos hgm])
 have U:Qbt m=true:=by cases h:Qbt m<;>simp_all
 refine Jc (by rw [U];rfl) ?_
 rw [Qd,Qb]
 have E:=I.live hg
 refine Zb E (by simpa using hv) ?_
 have V:=hq.of_sub I
 refine (V.sl Xj).len ?_
 rw [JA]
 by_cases hlen:1000≤ms.length
 ·refine Ze (decide_eq_true (by omega)) ?_
  exact same 13 (by unfold Qa3;rw [if_neg hgm,if_pos hlen])
 refine Jc (decide_eq_false (by omega)) ?_
 have hp:Qa3 ms m=(ms++[m],0):=by unfold Qa3;rw [if_neg hgm,if_neg hlen]
 rw [hp] at hK
 rw [Qd,Qb]
 refine Zb E (by simpa using hv) ?_
 refine ldM hm ?_
 refine Xec ?_
 intro j
 have s2:Sub Q (upd Q n2 (some (.cells (Zk m) .exact))):=(Sub.refl Q).new j _
 have hx:upd Q n2 (some (.cells (Zk m) .exact)) n2=some (.cells (Zk m) .exact):=Xa _ _ _
 have ab:l≠n2:=λe=>by rw [←e,E] at j;cases j
 refine ⟨Zd _ _ ab,?_⟩
 generalize upd Q n2 (some (.cells (Zk m) .exact))=g2 at s2 hx
 have ae:o n2=none:=J.fresh j
 have ad:Sl Zk 12 (unc o g2) (.slice (some ⟨n2,0,none⟩) 1 1) [m]:=Sl.one (Xj m) (bk:= .exact) (by rw [Zp ae];exact hx)
 refine (V.of_sub s2).append Xj (J.sub s2) ad (by simp) Xb4 (by decide) (by simp;omega) (by simp;omega) (λv' o' g' n' hk hl Z=> ?_)
 obtain ⟨O,ac⟩:=hk.col l d hd (λe=>aa e.symm)
 have af:g' l=some (.cells cs bk):=by rw [ac];exact s2.live E
 rw [Qd,Qb]
 have Y:off<cs.length:=Xg hv
 refine Qz af hr (by simpa using Y) Z.cellOk ?_
 have e:cs.set (off+0) v'=cs.set off v':=by rw [Nat.add_zero]
 rw [e]
 refine Ja (Sub.refl _) (hK o' _ _ v' ((((Kept.of_sub hL (I.trans s2)).trans (hk.mono (t':=λx=>x=c∨x=d) (λ_ h=> .inl h)))).trans (Kept.upd (t:=λx=>x=c∨x=d) O (.inr rfl) _)) (hl.upd _ _) O (Xa _ _ _) ?_)
 exact Z.kept (Kept.upd (t:=(· =d)) O rfl _) aa
end
section
open Go.RowKit
variable {g:G} {n:Nat}
inductive Cl where
 | sys|nodes|dir|que|ent|dev|mem
 | ag (i:Nat)|up (i:Nat)|ans (i:Nat)|dn (i:Nat)
structure Dev where
 mem:List Ln
 vol:Nat
structure DevH (o:Col Cl) (g:G) (ld lm:Nat) (D:Dev):Prop where
 od:o ld=some .dev
 om:o lm=some .mem
 hd: ∃r w,g ld=some (.cells [.slice (some ⟨lm,0,none⟩) D.mem.length D.mem.length,.int .i64 (D.vol:Nat),.int .i64 r,.int .i64 w] .exact)
 hm:g lm=some (.cells (D.mem.map Zq).flatten .exact)
def JaU (c:Cl):Prop:=c= .dev∨c= .mem
theorem DevH.ne {o:Col Cl} {ld lm:Nat} {D:Dev} (h:DevH o g ld lm D):ld≠lm:=λe=>by have:=h.od;rw [e,h.om] at this;cases this
theorem DevH.kept {o o':Col Cl} {g':G} {t:Cl→Prop} {ld lm:Nat} {D:Dev} (h:DevH o g ld lm D) (k:Kept t o o' g g') (j: ¬t .dev) (E: ¬t .mem):DevH o' g' ld lm D:=by
 obtain ⟨r,w,hd⟩:=h.hd
 exact ⟨(k.col _ _ h.od j).1,(k.col _ _ h.om E).1,⟨r,w,(k.col _ _ h.od j).2.trans hd⟩,(k.col _ _ h.om E).2.trans h.hm⟩
theorem DevH.mono {o:Col Cl} {g':G} {ld lm:Nat} {D:Dev} (h:DevH o g ld lm D) (hs:Sub g g'):DevH o g' ld lm D:=by
 obtain ⟨r,w,hd⟩:=h.hd
 exact ⟨h.od,h.om,⟨r,w,hs.live hd⟩,hs.live h.hm⟩
theorem Zc7 {l off:Nat} {cs:List Value} {bk:BK} {x y:Int} (j:g l=some (.cells cs bk)) (I:bk.rw=true) (E:cs[off]? =some (.int .i64 x)) {K:Cont}
  (J: ∀n',K (.int .i64 (IntKind.i64.wrap (x+y))) (upd g l (some (.cells (cs.set off (.int .i64 (IntKind.i64.wrap (x+y)))) bk))) n'):AC ZD [ptr l off,.int .i64 y] g n K:=by
 refine ACalls.fold Xb ?_
 rw [←ZbC]
 simp only [Xa2]
 rw [Qd,Qb]
 refine Qei ⟨rfl,?_⟩
 refine Zb (v:= .int .i64 x) j (by simpa using E) ⟨rfl,?_⟩
 refine Qz j I (by simpa using Xg E) rfl ?_
 rw [Nat.add_zero]
 exact Ja (Sub.refl _) (J _)
def XdR (D:Dev) (line:Int):Int:=if 0≤line∧line<D.mem.length then 0 else 12
theorem ZeQ {o:Col Cl} {ld lm:Nat} {D:Dev} (h:DevH o g ld lm D) (line:Int) {K:Cont} (j: ∀n',K (.int .i64 (XdR D line)) g n'):AC Jac [ptr ld 0,.int .i64 line] g n K:=by
 obtain ⟨r,w,hd⟩:=h.hd
 refine ACalls.fold Xb ?_
 rw [←Xc1]
 simp only [Zcu]
 rw [Zv]
 refine Jc rfl ?_
 rw [Xk]
 by_cases h0:line<0
 ·refine Ze (decide_eq_true h0) ?_
  have e:XdR D line=12:=by unfold XdR;rw [if_neg (by omega)]
  rw [e] at j;exact Ja (Sub.refl _) (j _)
 refine Jc (decide_eq_false h0) ?_
 rw [Qd,Qb]
 refine Zb hd rfl ?_
 simp only [XbU]
 rw [JA]
 by_cases h1:(D.mem.length:Int)≤line
 ·refine Ze (decide_eq_true h1) ?_
  have e:XdR D line=12:=by unfold XdR;rw [if_neg (by omega)]
  rw [e] at j;exact Ja (Sub.refl _) (j _)
 refine Jc (decide_eq_false h1) ?_
 have e:XdR D line=0:=by unfold XdR;rw [if_pos (by omega)]
 rw [e] at j;exact Ja (Sub.refl _) (j _)
def Dev.get (D:Dev) (line:Int):Ln:=if 0≤line then D.mem.getD line.toNat zeroL else zeroL
theorem Qij {l:Nat} {x z:Ln} {K:G→Prop} (h:g l=some (.cells (Zq z) .exact)) (k:upd g l (some (.cells (Zq x) .exact)) l=some (.cells (Zq x) .exact)→K (upd g l (some (.cells (Zq x) .exact)))):(Zq x).length=8∧Qu g l 0 (Zq x) K:=by
 refine ⟨Je _,Xt h rfl (by rw [Je,Je];decide) (ZM _) ?_⟩
 rw [Jw (by rw [Je,Je])]
 exact k (Xa _ _ _)
theorem ZfJ {o:Col Cl} {ld lm:Nat} {D:Dev} (V:Live o g) (h:DevH o g ld lm D) (line:Int) {K:Cont}
  (hK: ∀g' n',Kept JaU o o g g'→Live o g'→DevH o g' ld lm D→K (.tuple #[.agg (Zq (if XdR D line=0 then D.get line else zeroL)).toArray,.int .i64 (XdR D line)]) g' n'):AC QaM [ptr ld 0,.int .i64 line] g n K:=by
 refine ACalls.fold Xb ?_
 rw [←XcQ]
 simp only [Zce,Xi]
 intro Z
 have O:Sub g (upd g n (some (.cells (Zq zeroL) .exact))):=(Sub.refl g).new Z _
 have hz:upd g n (some (.cells (Zq zeroL) .exact)) n=some (.cells (Zq zeroL) .exact):=Xa _ _ _
 change AC Jac [ptr ld 0,.int .i64 line] (upd g n (some (.cells (Zq zeroL) .exact))) (n+1) _
 generalize upd g n (some (.cells (Zq zeroL) .exact))=g1 at O hz
 have Q:=h.mono O
 have j:o n=none:=V.fresh Z
 refine ZeQ Q line (λn2=> ?_)
 rw [Jal]
 by_cases he:XdR D line=0
 ·rw [if_pos he,he] at hK
  refine Jc (by rw [he];rfl) ?_
  have hr:0≤line∧line<D.mem.length:=by
   unfold XdR at he;split at he
   ·assumption
   ·cases he
  obtain ⟨k,rfl⟩: ∃k:Nat,line=k:=⟨line.toNat,by omega⟩
  obtain ⟨r,w,hd⟩:=Q.hd
  rw [Qd,Qb]
  refine Zc7 hd rfl rfl (λn3=> ?_)
  rw [Qd,Qb]
  refine Zb (Xa _ _ _) rfl ?_
  refine Zr (by omega) (by omega) ?_
  rw [Qb]
  have U:upd g1 ld (some (.cells ([.slice (some ⟨lm,0,none⟩) D.mem.length D.mem.length,.int .i64 (D.vol:Nat),.int .i64 r,.int .i64 w].set (0+2) (.int .i64 (IntKind.i64.wrap (r+1)))) .exact)) lm=some (.cells (D.mem.map Zq).flatten .exact):=by rw [Zd _ _ Q.ne.symm];exact Q.hm
  have Y:D.mem[k]? =some (D.get k):=by
   unfold Dev.get
   rw [if_pos (by omega),Int.toNat_natCast,List.getD_eq_getElem?_getD,List.getElem?_eq_getElem (by omega)];rfl
  have e0:0+(k:Int).toNat*8=k*8:=by rw [Int.toNat_natCast,Nat.zero_add]
  rw [e0]
  refine Blk1.ldN (enc:=Zq) Je U Y ?_
  rw [Xe]
  have E:n≠ld:=λe=>by have:=h.od;rw [←e,j] at this;cases this
  refine Qij (z:=zeroL) (by rw [Zd _ _ E];exact hz) (λI=> ?_)
  refine ldL I ?_
  have J:n≠lm:=λe=>by have:=h.om;rw [←e,j] at this;cases this
  refine Ja (Sub.refl _) (hK _ _ (((Kept.of_sub V O).trans (Kept.upd (t:=JaU) h.od (.inl rfl) _)).fresh Z j _) (((V.sub O).upd _ _).upd _ _) ⟨h.od,h.om,⟨IntKind.i64.wrap (r+1),w,?_⟩,?_⟩)
  ·rw [Zd _ _ E.symm,Xa];rfl
  ·rw [Zd _ _ J.symm];exact U
 ·rw [if_neg he] at hK
  refine Ze (decide_eq_true he) ?_
  change Jj (.agg (Zq zeroL).toArray) _
  rw [Xe]
  refine Qij hz (λI=> ?_)
  refine ldL I ?_
  have E:n≠ld:=λe=>by have:=h.od;rw [←e,j] at this;cases this
  have J:n≠lm:=λe=>by have:=h.om;rw [←e,j] at this;cases this
  obtain ⟨r,w,hd⟩:=Q.hd
  exact Ja (Sub.refl _) (hK _ _ ((Kept.of_sub V O).fresh Z j _) ((V.sub O).upd _ _) ⟨h.od,h.om,⟨r,w,by rw [Zd _ _ E.symm];exact hd⟩,by rw [Zd _ _ J.symm];exact Q.hm⟩)
def Dev.put (D:Dev) (line:Int) (x:Ln):Dev:=if XdR D line=0 then ⟨D.mem.set line.toNat x,D.vol⟩ else D
theorem Zdv {o:Col Cl} {ld lm:Nat} {D:Dev} (I:Live o g) (h:DevH o g ld lm D) (line:Int) (x:Ln) {K:Cont}
  (O: ∀g' n',Kept JaU o o g g'→Live o g'→DevH o g' ld lm (D.put line x)→K (.int .i64 (XdR D line)) g' n'):AC Jae [ptr ld 0,.int .i64 line,.agg (Zq x).toArray] g n K:=by
 refine ACalls.fold Xb ?_
 rw [←Zcz]
 simp only [Xb0,Xe]
 intro V
 have j:Sub g (upd g n (some (.cells (Zq x) .exact))):=(Sub.refl g).new V _
 have Y:upd g n (some (.cells (Zq x) .exact)) n=some (.cells (Zq x) .exact):=Xa _ _ _
 generalize upd g n (some (.cells (Zq x) .exact))=g1 at j Y
 have E:=h.mono j
 have J:o n=none:=I.fresh V
 refine ZeQ E line (λn2=> ?_)
 rw [Jal]
 by_cases he:XdR D line=0
 ·have hp:D.put line x=⟨D.mem.set line.toNat x,D.vol⟩:=by unfold Dev.put;rw [if_pos he]
  rw [hp,he] at O
  refine Jc (by rw [he];rfl) ?_
  have hr:0≤line∧line<D.mem.length:=by
   unfold XdR at he;split at he
   ·assumption
   ·cases he
  obtain ⟨k,rfl⟩: ∃k:Nat,line=k:=⟨line.toNat,by omega⟩
  obtain ⟨r,w,hd⟩:=E.hd
  rw [Qd,Qb]
  refine Zc7 hd rfl rfl (λn3=> ?_)
  rw [Qd,Qb]
  refine Zb (Xa _ _ _) rfl ?_
  have U:n≠ld:=λe=>by have:=h.od;rw [←e,J] at this;cases this
  have aa:n≠lm:=λe=>by have:=h.om;rw [←e,J] at this;cases this
  refine ldL (x:=x) (by rw [Zd _ _ U];exact Y) ?_
  refine Zr (by omega) (by omega) ?_
  rw [Qb]
  have Q:upd g1 ld (some (.cells ([.slice (some ⟨lm,0,none⟩) D.mem.length D.mem.length,.int .i64 (D.vol:Nat),.int .i64 r,.int .i64 w].set (0+3) (.int .i64 (IntKind.i64.wrap (w+1)))) .exact)) lm=some (.cells (D.mem.map Zq).flatten .exact):=by rw [Zd _ _ E.ne.symm];exact E.hm
  have Z:0+(k:Int).toNat*8=k*8:=by rw [Int.toNat_natCast,Nat.zero_add]
  rw [Z]
  refine ⟨Je _,Blk1.stN (enc:=Zq) Je ZM Q rfl (by omega) (λhb=> ?_)⟩
  refine Ja (Sub.refl _) (O _ _ (((Kept.of_sub I j).trans (Kept.upd (t:=JaU) h.od (.inl rfl) _)).trans (Kept.upd (t:=JaU) h.om (.inr rfl) _)) (((I.sub j).upd _ _).upd _ _) ⟨h.od,h.om,⟨r,IntKind.i64.wrap (w+1),?_⟩,?_⟩)
  ·rw [Zd _ _ E.ne,Xa,List.length_set];rfl
  ·rw [Int.toNat_natCast];exact hb
 ·have hp:D.put line x=D:=by unfold Dev.put;rw [if_neg he]
  rw [hp] at O
  refine Ze (decide_eq_true he) ?_
  exact Ja (Sub.refl _) (O _ _ (Kept.of_sub I j) (I.sub j) E)
def Dev.fail (D:Dev):Dev:=⟨List.replicate D.vol zeroL++D.mem.drop D.vol,D.vol⟩
theorem Xd5 {o:Col Cl} {ld lm:Nat} {D:Dev} (U:Live o g) (h:DevH o g ld lm D) (E:1≤D.vol∧D.vol<D.mem.length∧D.mem.length≤64) {K:Cont}
  (V: ∀g' n',Kept JaU o o g g'→Live o g'→DevH o g' ld lm D.fail→K (.tuple #[]) g' n'):AC ZF [ptr ld 0] g n K:=by
 obtain ⟨r,w,hd⟩:=h.hd
 refine ACalls.fold Xb ?_
 rw [←JcP]
 simp only [Zb8]
 rw [Xck]
 refine Ze rfl ?_
 rw [Qd,Qb]
 refine Zb hd rfl ?_
 rw [Qd,Qb]
 refine Zb hd rfl ?_
 refine Zcb (.inl ⟨by unfold LC;omega,Nat.le_refl _⟩) (by omega) ?_
 show Xaz (.slice (some ⟨lm,0,none⟩) D.vol D.mem.length) (Zq zeroL) g _
 simp only [Xaz]
 rw [if_neg (by simp [Zq];refine ⟨by omega,?_⟩;intro e;have:=zeroL.2;rw [e] at this;cases this)]
 have j:(D.mem.map Zq).flatten.length=D.mem.length*8:=Xh Zq 8 Je _
 have I:(reps D.vol (Zq zeroL)).length=D.vol*8:=by rw [Jab,Xh Zq 8 Je,List.length_replicate]
 refine Xt h.hm rfl (by rw [j,I];omega) ?_ ?_
 ·intro v E
  rw [Jab] at E
  obtain ⟨l,O,Q⟩:=List.mem_flatten.1 E
  obtain ⟨y,_,rfl⟩:=List.mem_map.1 O
  exact ZM y v Q
 have e:splice (D.mem.map Zq).flatten 0 (reps D.vol (Zq zeroL))=(D.fail.mem.map Zq).flatten:=by
  have J:=JaV (enc:=Zq) (z:=8) Je D.mem (List.replicate D.vol zeroL) 0 (by simp;omega)
  rw [Nat.zero_mul] at J
  rw [Jab,J]
  simp [Dev.fail]
 rw [e]
 refine Ja (Sub.refl _) (V _ _ (Kept.upd (t:=JaU) h.om (.inr rfl) _) (U.upd _ _) ⟨h.od,h.om,⟨r,w,?_⟩,Xa _ _ _⟩)
 rw [Zd _ _ h.ne,hd]
 have:D.fail.mem.length=D.mem.length:=by simp [Dev.fail];omega
 rw [this];rfl
end
section
open Go.RowKit
variable {g:G} {n:Nat}
theorem JgE (k:Nat):reps k [.int .u64 0,.int .u64 0,.int .u64 0,.int .u64 0,.int .u64 0,.int .u64 0,.int .u64 0,.int .u64 0]=((List.replicate k zeroL).map Zq).flatten:=Jab (enc:=Zq) zeroL k
theorem Qgp {o:Col Cl} (U:Live o g) {lines vol:Nat} (Y:2≤lines) (h2:lines≤64) (Z:1≤vol) (h4:vol<lines) {K:Cont}
  (V: ∀ld lm o' g' n',Kept JaU o o' g g'→Live o' g'→Sub g g'→DevH o' g' ld lm ⟨List.replicate lines zeroL,vol⟩→K (.tuple #[ptr ld 0,.int .i64 0]) g' n'):AC JbD [.int .i64 (lines:Nat),.int .i64 (vol:Nat)] g n K:=by
 refine ACalls.fold Xb ?_
 rw [←XfJ]
 simp only [Qgy]
 rw [Xk]
 refine Jc (decide_eq_false (by omega)) ?_
 rw [Zbn]
 refine Jc (decide_eq_false (by omega)) ?_
 rw [Xk]
 refine Jc (decide_eq_false (by omega)) ?_
 rw [ZaN,Qg (by omega) (by omega),Zbn]
 refine Jc (decide_eq_false (by omega)) ?_
 refine ⟨by omega,by omega,by omega,by omega,?_⟩
 intro O
 simp only [Int.toNat_natCast]
 rw [JgE]
 refine ⟨rfl,by simp,rfl,by simp,?_⟩
 simp only [Xi,Xe]
 intro j
 have Q:o n=none:=U.fresh O
 have E:n≠n+1:=by omega
 have I:=U.new n Cl.mem (.cells ((List.replicate lines zeroL).map Zq).flatten .exact)
 have J:upd o n (some Cl.mem) (n+1)=none:=I.fresh j
 refine Ja (Sub.refl _) (V (n+1) n _ _ _ ((Kept.new (t:=JaU) (c:= .mem) Q O (.inr rfl) _).trans (Kept.new (t:=JaU) (c:= .dev) J j (.inl rfl) _)) (I.new (n+1) Cl.dev _) (((Sub.refl g).new O _).new j _) ⟨Xa _ _ _,by rw [Zd _ _ E,Xa],⟨0,0,?_⟩,by rw [Zd _ _ E,Xa]⟩)
 rw [Xa,List.length_replicate];rfl
theorem Xfa {v:Value} {l off m c:Nat} {xs:List Ln} (V:v= .slice (some ⟨l,off,none⟩) m c) (h:Sl Zq 8 g v xs) (E:xs≠[]) (J:xs.length<1000000) {K:Cont}
  (U: ∀lb g' n',Sub g g'→g lb=none→g' lb=some (.cells (xs.map Zq).flatten (.loose 8))→K (.slice (some ⟨lb,0,none⟩) xs.length (LC+8)) g' n'):AC ZE [v] g n K:=by
 subst V
 refine ACalls.fold Xb ?_
 rw [←JaP]
 simp only [Jad,Zc2]
 refine Jc rfl ?_
 simp only [Xi]
 intro Q
 have hs:=(Sub.refl g).new Q (some (.cells (reps 0 [.int .u64 0,.int .u64 0,.int .u64 0,.int .u64 0,.int .u64 0,.int .u64 0,.int .u64 0,.int .u64 0]) .exact))
 obtain rfl:m=xs.length:=by obtain ⟨a,c,e,_⟩:=id h;cases e;rfl
 have hx:0<xs.length:=by cases xs with
  | nil=>exact absurd rfl E
  | cons x xs=>simp
 refine ⟨by decide,by omega,by omega,Rd.elems (h.mono hs) ⟨?_,?_⟩⟩
 ·intro w I
  obtain ⟨l,O,I⟩:=List.mem_flatten.1 I
  obtain ⟨y,_,rfl⟩:=List.mem_map.1 O
  exact ZM y w I
 rw [if_pos (by unfold LC;decide),if_neg (by omega)]
 refine Rd.elems (Rd.lit (Xa _ _ _) rfl) ?_
 intro j
 simp only [Nat.zero_add]
 refine Ja (Sub.refl _) (U _ _ _ (hs.new j _) (hs.none j) ?_)
 rw [Xa];rfl
theorem DevH.sl {o:Col Cl} {ld lm:Nat} {D:Dev} (h:DevH o g ld lm D):Sl Zq 8 g (.slice (some ⟨lm,0,none⟩) D.mem.length D.mem.length) D.mem:=Rd.lit h.hm (Xh Zq 8 Je _)
theorem Jfc {o:Col Cl} {ld lm:Nat} {D:Dev} (h:DevH o g ld lm D) (j:D.mem≠[]) (E:D.mem.length≤64) {K:Cont}
  (I: ∀lb g' n',Sub g g'→g lb=none→g' lb=some (.cells (D.mem.map Zq).flatten (.loose 8))→K (.slice (some ⟨lb,0,none⟩) D.mem.length (LC+8)) g' n'):AC XaH [ptr ld 0] g n K:=by
 obtain ⟨r,w,hd⟩:=h.hd
 refine ACalls.fold Xb ?_
 rw [←JcG]
 simp only [Qb1]
 rw [Zv]
 refine Jc rfl ?_
 rw [Qd,Qb]
 refine Zb hd rfl ?_
 exact Xfa rfl h.sl j (by omega) (λlb g' n' a b c=>Ja (Sub.refl _) (I _ _ _ a b c))
theorem Qed {o:Col Cl} {ld lm:Nat} {D:Dev} {v:Value} {img:List Ln} (Y:Live o g) (h:DevH o g ld lm D) (O:Sl Zq 8 g v img) (j:img.length=D.mem.length) (J:img≠[]) {K:Cont}
  (Z: ∀g' n',Kept JaU o o g g'→Live o g'→DevH o g' ld lm ⟨img,D.vol⟩→K (.int .i64 0) g' n'):AC Q7 [ptr ld 0,v] g n K:=by
 obtain ⟨r,w,hd⟩:=h.hd
 refine ACalls.fold Xb ?_
 rw [←Xcj]
 simp only [Zbm]
 rw [Zv]
 refine Jc rfl ?_
 refine O.len ?_
 rw [Qd,Qb]
 refine Zb hd rfl ?_
 simp only [XbU]
 rw [Jal]
 refine Jc (decide_eq_false (by rw [j];simp)) ?_
 rw [Qd,Qb]
 refine Zb hd rfl ?_
 obtain ⟨U,V,rfl⟩: ∃a c,v= .slice a img.length c:=by obtain ⟨a,c,e,_⟩:=id O;exact ⟨a,c,e⟩
 show Jcg (.slice (some ⟨lm,0,none⟩) D.mem.length D.mem.length) (.slice U img.length V) 8 g _
 simp only [Jcg]
 rw [j,Nat.min_self,←j]
 refine Rd.elems O ⟨?_,?_⟩
 ·intro w E
  obtain ⟨l,j,E⟩:=List.mem_flatten.1 E
  obtain ⟨y,_,rfl⟩:=List.mem_map.1 j
  exact ZM y w E
 have I:(img.map Zq).flatten.length=img.length*8:=Xh Zq 8 Je _
 have Q:(D.mem.map Zq).flatten.length=D.mem.length*8:=Xh Zq 8 Je _
 have hx:0<img.length:=by cases img with
  | nil=>exact absurd rfl J
  | cons x xs=>simp
 rw [if_neg (λe=>by rw [e] at I;simp at I;omega)]
 refine Xt h.hm rfl (by omega) ?_ ?_
 ·intro w E
  obtain ⟨l,j,E⟩:=List.mem_flatten.1 E
  obtain ⟨y,_,rfl⟩:=List.mem_map.1 j
  exact ZM y w E
 rw [Jw (by omega)]
 refine Ja (Sub.refl _) (Z _ _ (Kept.upd (t:=JaU) h.om (.inr rfl) _) (Y.upd _ _) ⟨h.od,h.om,⟨r,w,?_⟩,Xa _ _ _⟩)
 rw [Zd _ _ h.ne,hd]
 show _=some (Blk.cells [.slice (some ⟨lm,0,none⟩) img.length img.length,_,_,_] .exact)
 rw [j]
end
end Go.Proofs.YtmchcjaomcdbmaaGreat.Gen
