import Derived.ChangeAlike
import Derived.Defers
import Derived.KernelRfl
import Derived.Laws.LoneSync
import Derived.Laws.Pointers
import Derived.LoopIn
import Derived.LoopNIn
import Derived.OwnWalkIn
import Derived.RangeFuncBound
import Derived.RangeFuncCalls
import Derived.RangeFuncLeaves
import Derived.RangeFuncNested
import Derived.RegionCalls
import Derived.RegionTactic
import Derived.Shelf.Abstract
import Derived.Shelf.RegionOpen
import Derived.Tactics
import Derived.Tactics2
import Derived.TacticsInMore
import Derived.WalkKit
import Derived.Test.YtmchcjaomcdbmaaGreatGenMesiDrops
/- What the functions come to. -/
set_option linter.all false
set_option linter.deprecated false
namespace Go.Proofs.YtmchcjaomcdbmaaGreat.Gen
open Go Go.Proofs.YtmchcjaomcdbmaaGreat.Abs
theorem Xdu (w:World):(callFunc 350 #[]).run Tryz.prog w= .ok (.value (.tuple #[])) w:=run_call_mark0 Tryz.func350 (by kernel_rfl) (by kernel_rfl) (by kernel_rfl) .disable (by kernel_rfl) w
theorem Xel (w:World):(callFunc 352 #[]).run Tryz.prog w= .ok (.value (.tuple #[])) w:=run_call_mark0 Tryz.func352 (by kernel_rfl) (by kernel_rfl) (by kernel_rfl) .enable (by kernel_rfl) w
theorem ZeY (a:Addr) (w:World):(callFunc 353 #[.pointer (some a)]).run Tryz.prog w= .ok (.value (.tuple #[])) w:=run_call_marked Tryz.func353 (by kernel_rfl) (by kernel_rfl) (by kernel_rfl) .acquire (by kernel_rfl) a w
theorem Qe2 (a:Addr) (w:World):(callFunc 355 #[.pointer (some a)]).run Tryz.prog w= .ok (.value (.tuple #[])) w:=run_call_marked Tryz.func355 (by kernel_rfl) (by kernel_rfl) (by kernel_rfl) .releaseMerge (by kernel_rfl) a w
set_option maxRecDepth 100000 in
set_option maxHeartbeats 1600000 in
theorem Zfd (a:Addr) (x:Value) (u:FrameMode) (w:World) (hc:w.cell? a=some x) (hz:w.frozen? a=false):
  CallsD Tryz.prog 328 #[.pointer (some a),.bool true] u w fun e u' w'=>u'=u∧(e= .returned (.tuple #[])∧w'=w.drew.setCell a (.int .u32 1)):=by
 have hc':w.drew.cell? a=some x:=by go_simp
 have hz':w.drew.frozen? a=false:=by go_simp
 have hst:=run_call_store (P:=Tryz.prog) Tryz.func340 (by kernel_rfl) (by kernel_rfl) (by kernel_rfl) (by kernel_rfl) (k:= .u32) (y:=1) hc' hz'
 go_enter_d Tryz.func328,Tryz.ntmps328
 go_wp2
 go_region_calls
 all_goals (go_end0;exact ⟨rfl,rfl⟩)
set_option maxRecDepth 100000 in
set_option maxHeartbeats 1600000 in
theorem Zeb (a:Addr) (u:FrameMode) (w:World) (hc:w.cell? a=some (.int .i32 1)) (hz:w.frozen? a=false):
  CallsD Tryz.prog 327 #[.pointer (some a)] u w fun e u' w'=>u'=u∧(e= .returned (.tuple #[])∧w'=w.setCell a (.int .i32 0)):=by
 have hd:=Xdu
 have he:=Xel
 have hr:=Qe2
 have hadd:=run_call_add (P:=Tryz.prog) Tryz.func356 (by kernel_rfl) (by kernel_rfl) (by kernel_rfl) .i32 (by kernel_rfl) (y:= -1) (s:=0) hc hz (by simp [go_sem];rfl)
 have hcv:=run_convert_to_unsafe (P:=Tryz.prog) (src:=429) (dst:=433) Tryz.underlying429 Tryz.underlying433 (by kernel_rfl) hc
 go_enter_d Tryz.func327,Tryz.ntmps327
 go_wp2
 go_end0
 go_wp2
 go_end0
 exact ⟨rfl,rfl⟩
set_option maxRecDepth 100000 in
set_option maxHeartbeats 1600000 in
theorem JfM (a:Addr) (w:World) (hc:w.cell? a=some (.int .i32 0)) (hz:w.frozen? a=false):
  Calls Tryz.prog 326 #[.pointer (some a)] w fun e w'=>e= .returned (.tuple #[])∧w'=w.setCell a (.int .i32 1):=by
 have hd:=Xdu
 have he:=Xel
 have ha:=ZeY
 have hcas:=run_call_cas_hit (P:=Tryz.prog) Tryz.func351 (by kernel_rfl) (by kernel_rfl) (by kernel_rfl) .i32 (by kernel_rfl) (y:=1) hc hz
 have hc':(w.setCell a (.int .i32 1)).cell? a=some (.int .i32 1):=World.cell?_setCell_same w a _ hc
 have hcv:=run_convert_to_unsafe (P:=Tryz.prog) (src:=429) (dst:=433) Tryz.underlying429 Tryz.underlying433 (by kernel_rfl) hc'
 go_enter Tryz.func326,Tryz.ntmps326
 go_wp2
 first|go_end0|(simp only [Exit.inBlock,Exit.then];refine bodyPost_ret (results_none rfl _ _ _) rfl ?_)|refine bodyPost_ret (results_none rfl _ _ _) rfl ?_
 go_wp2
 go_end0
 exact ⟨rfl,rfl⟩
set_option maxRecDepth 100000 in
set_option maxHeartbeats 1600000 in
theorem Zfe (b off:Nat) (us vs:Array Value) (w:World) (R:Ending→World→Prop)
  (h0:w.cell? ⟨b,off,none⟩=some (.int .u32 0)) (h1:w.cell? ⟨b,off+1,none⟩=some (.int .i32 0)) (f1:w.frozen? ⟨b,off+1,none⟩=false)
  (hcb:Calls Tryz.prog 306 (us++ #[]++vs) (w.setCell ⟨b,off+1,none⟩ (.int .i32 1)) fun e w2=>(∃v,e= .returned v)∧(∃x,w2.cell? ⟨b,off,none⟩=some x)∧w2.frozen? ⟨b,off,none⟩=false∧
   w2.cell? ⟨b,off+1,none⟩=some (.int .i32 1)∧w2.frozen? ⟨b,off+1,none⟩=false∧R (.returned (.tuple #[])) ((w2.drew.setCell ⟨b,off,none⟩ (.int .u32 1)).setCell ⟨b,off+1,none⟩ (.int .i32 0))):
  Calls Tryz.prog 317 #[.pointer (some ⟨b,off,none⟩),.func (.func 306) us vs] w R:=by
 have hl:=run_call_load (P:=Tryz.prog) Tryz.func325 (by kernel_rfl) (by kernel_rfl) (by kernel_rfl) .u32 (by kernel_rfl) (w:=w.setCell ⟨b,off+1,none⟩ (.int .i32 1)) (a:=⟨b,off,none⟩) (x:=0) ((World.cell?_setCell_other _ ⟨b,off+1,none⟩ ⟨b,off,none⟩ _ (by simp)).trans h0)
 have hnot: ∀(x:Bool) (w:World),(Op.unary .not (.bool x)).run Tryz.prog w= .ok (.bool (!x)) w:=fun _ _=>rfl
 have hinv:(callFunc 306 (us++ #[]++vs)).run Tryz.prog (w.setCell ⟨b,off+1,none⟩ (.int .i32 1))= .ok (.enter 306 (us++ #[]++vs)) (w.setCell ⟨b,off+1,none⟩ (.int .i32 1)):=Qbk Tryz.func306 (by kernel_rfl) (by kernel_rfl)
 go_enter_defers Tryz.func317,Tryz.ntmps317
 go_wp2_with (first|(go_at_call 326;refine (JfM ⟨b,off+1,none⟩ _ (by go_simp) (by go_simp)).mono ?_;rintro e w' ⟨rfl,rfl⟩)|(go_at_call 316;go_in)|(go_at_call 306;refine hcb.mono ?_;rintro e w2 ⟨⟨v,rfl⟩,⟨x,c0⟩,z0,c1,z1,hR⟩))
 refine leaves_cons (f:=328) (args:= #[.pointer (some ⟨b,off,none⟩),.bool true]) (by simp) (by simp [go_sem]) ?_
 refine (Zfd ⟨b,off,none⟩ x .returning _ c0 z0).mono ?_
 rintro e u' w'' ⟨rfl,rfl,rfl⟩
 refine leaves_cons (f:=327) (args:= #[.pointer (some ⟨b,off+1,none⟩)]) (by simp [settle]) (by simp [go_sem]) ?_
 refine (Zeb ⟨b,off+1,none⟩ _ _ ?_ (by simp [z1])).mono ?_
 ·refine (World.cell?_setCell_other _ ⟨b,off,none⟩ ⟨b,off+1,none⟩ _ (by simp)).trans ?_
  rw [World.cell?_drew]
  exact c1
 rintro e u' w'' ⟨rfl,rfl,rfl⟩
 simp [Leaves,settle,results,Tryz.results317]
 exact hR
set_option maxRecDepth 100000 in
set_option maxHeartbeats 1600000 in
theorem XeY (b off:Nat) (us vs:Array Value) (w:World) (R:Ending→World→Prop)
  (h0:w.cell? ⟨b,off,none⟩=some (.int .u32 0)) (h1:w.cell? ⟨b,off+1,none⟩=some (.int .i32 0)) (f1:w.frozen? ⟨b,off+1,none⟩=false)
  (hcb:Calls Tryz.prog 342 (us++ #[]++vs) (w.setCell ⟨b,off+1,none⟩ (.int .i32 1)) fun e w2=>(∃v,e= .returned v)∧(∃x,w2.cell? ⟨b,off,none⟩=some x)∧w2.frozen? ⟨b,off,none⟩=false∧
   w2.cell? ⟨b,off+1,none⟩=some (.int .i32 1)∧w2.frozen? ⟨b,off+1,none⟩=false∧R (.returned (.tuple #[])) ((w2.drew.setCell ⟨b,off,none⟩ (.int .u32 1)).setCell ⟨b,off+1,none⟩ (.int .i32 0))):
  Calls Tryz.prog 317 #[.pointer (some ⟨b,off,none⟩),.func (.func 342) us vs] w R:=by
 have hl:=run_call_load (P:=Tryz.prog) Tryz.func325 (by kernel_rfl) (by kernel_rfl) (by kernel_rfl) .u32 (by kernel_rfl) (w:=w.setCell ⟨b,off+1,none⟩ (.int .i32 1)) (a:=⟨b,off,none⟩) (x:=0) ((World.cell?_setCell_other _ ⟨b,off+1,none⟩ ⟨b,off,none⟩ _ (by simp)).trans h0)
 have hnot: ∀(x:Bool) (w:World),(Op.unary .not (.bool x)).run Tryz.prog w= .ok (.bool (!x)) w:=fun _ _=>rfl
 have hinv:(callFunc 342 (us++ #[]++vs)).run Tryz.prog (w.setCell ⟨b,off+1,none⟩ (.int .i32 1))= .ok (.enter 342 (us++ #[]++vs)) (w.setCell ⟨b,off+1,none⟩ (.int .i32 1)):=Qbk Tryz.func342 (by kernel_rfl) (by kernel_rfl)
 go_enter_defers Tryz.func317,Tryz.ntmps317
 go_wp2_with (first|(go_at_call 326;refine (JfM ⟨b,off+1,none⟩ _ (by go_simp) (by go_simp)).mono ?_;rintro e w' ⟨rfl,rfl⟩)|(go_at_call 316;go_in)|(go_at_call 342;refine hcb.mono ?_;rintro e w2 ⟨⟨v,rfl⟩,⟨x,c0⟩,z0,c1,z1,hR⟩))
 refine leaves_cons (f:=328) (args:= #[.pointer (some ⟨b,off,none⟩),.bool true]) (by simp) (by simp [go_sem]) ?_
 refine (Zfd ⟨b,off,none⟩ x .returning _ c0 z0).mono ?_
 rintro e u' w'' ⟨rfl,rfl,rfl⟩
 refine leaves_cons (f:=327) (args:= #[.pointer (some ⟨b,off+1,none⟩)]) (by simp [settle]) (by simp [go_sem]) ?_
 refine (Zeb ⟨b,off+1,none⟩ _ _ ?_ (by simp [z1])).mono ?_
 ·refine (World.cell?_setCell_other _ ⟨b,off,none⟩ ⟨b,off+1,none⟩ _ (by simp)).trans ?_
  rw [World.cell?_drew]
  exact c1
 rintro e u' w'' ⟨rfl,rfl,rfl⟩
 simp [Leaves,settle,results,Tryz.results317]
 exact hR
end Go.Proofs.YtmchcjaomcdbmaaGreat.Gen
namespace Go.Proofs.YtmchcjaomcdbmaaGreat.Gen
open Go Go.Proofs.YtmchcjaomcdbmaaGreat.Abs Go.RowKit Go.Shelf
attribute [local go_sem] Oper.semAt_some
def JaW (len k:Nat):List Nat:=(List.range k).map fun j=>len-1-j
theorem JbE (len k:Nat):JaW len (k+1)=JaW len k++[len-1-k]:=by simp [JaW,List.range_succ]
theorem JeH (len k:Nat):(JaW len k).length=k:=by simp [JaW]
def Je7 (L:Nat→Int) (E:Nat→Nat→Value) (j:Nat):Value:= .agg #[.int .i64 (L j),E j 0,E j 1,E j 2,E j 3,E j 4,E j 5,E j 6,E j 7]
set_option maxRecDepth 100000 in
set_option maxHeartbeats 2000000 in
theorem Zfx (F:Fence) (n:Nat) (h7:F.fn 299) (hro:F.round=none) (hn:1≤n) (l Bs n₀ sb so len cap:Nat) (a:Option Addr) (L:Nat→Int) (E:Nat→Nat→Value) (hlen:len<1099511627776) (ha:0<len→a=some ⟨sb,so,none⟩) (hb:0<len→sb<n₀) (J Jx:List Nat→World→Prop)
  (hY: ∀pre x W,J pre W→pre.length<len→YieldAt F (n-1) Tryz.prog l #[.int .i64 (x:Nat),Je7 L E x] W fun e W'=>
   (e= .returned (.bool true)∧J (pre++[x]) W'∧Below n₀ W W')∨(e= .returned (.bool false)∧Jx (pre++[x]) W'))
  (W:World) (hBs:W.cell? ⟨Bs,0,none⟩=some (.slice a len cap)) (hBn:Bs<n₀)
  (hL: ∀j,j<len→W.cell? ⟨sb,so+j*9,none⟩=some (.int .i64 (L j))) (hE: ∀j i,j<len→i<8→W.cell? ⟨sb,so+j*9+1+i,none⟩=some (E j i)) (h0:J [] W):
  CallsIn F n Tryz.prog 299 #[.func (.yield l) #[] #[],.pointer (some ⟨Bs,0,none⟩)] W fun e W'=>(∃v,e= .returned v)∧
   ((∃ys,ys=JaW len len∧J ys W')∨(∃pre,(∃k,k≤len∧pre=JaW len k)∧Jx pre W')):=by
 refine callsIn_of_wp Tryz.func299 rfl h7 ?_ hro
 simp only [Tryz.ntmps299,List.size_toArray,List.length_cons,List.length_nil,Nat.reduceAdd,Nat.reduceSub,Array.replicate_succ,Array.replicate_zero,List.push_toArray,List.append_toArray,List.nil_append,List.cons_append]
 gi_wp2
 gi_loopw [3] (fun i wr=> ∃k:Nat,k≤len∧i= .int .i64 ((len:Int)-1-k)∧J (JaW len k) wr∧Below n₀ W wr)
  (fun i _=>(intOf i+1).toNat)
 case atStart=>exact ⟨0,Nat.zero_le _,by simp,h0,Below.refl _ _⟩
 case round=>
  obtain ⟨k,hk,rfl,hJs,hnx⟩:=hrel
  by_cases hlt:k<len
  ·have hBs':=(hnx.cell (p:=⟨Bs,0,none⟩) hBn).trans hBs
   obtain ⟨j,hj⟩: ∃j:Nat,(len:Int)-1-k=j:=⟨len-1-k,by omega⟩
   have hjl:j<len:=by omega
   obtain rfl:=ha (by omega)
   have hbl:=hb (by omega)
   rw [hj]
   obtain ⟨fn,tmps,assign,body,hy,hR⟩:=hY _ j wr hJs (by rw [JeH];exact hlt)
   have e0:wr.cell? ⟨sb,so+j*9,none⟩=some (.int .i64 (L j)):=(hnx.cell (p:=⟨sb,so+j*9,none⟩) hbl).trans (hL j hjl)
   have e1:wr.cell? ⟨sb,so+j*9+1,none⟩=some (E j 0):=(hnx.cell (p:=⟨sb,so+j*9+1,none⟩) hbl).trans (by have:=hE j 0 hjl (by decide);simpa [Nat.add_assoc] using this)
   have e2:wr.cell? ⟨sb,so+j*9+2,none⟩=some (E j 1):=(hnx.cell (p:=⟨sb,so+j*9+2,none⟩) hbl).trans (by have:=hE j 1 hjl (by decide);simpa [Nat.add_assoc] using this)
   have e3:wr.cell? ⟨sb,so+j*9+3,none⟩=some (E j 2):=(hnx.cell (p:=⟨sb,so+j*9+3,none⟩) hbl).trans (by have:=hE j 2 hjl (by decide);simpa [Nat.add_assoc] using this)
   have e4:wr.cell? ⟨sb,so+j*9+4,none⟩=some (E j 3):=(hnx.cell (p:=⟨sb,so+j*9+4,none⟩) hbl).trans (by have:=hE j 3 hjl (by decide);simpa [Nat.add_assoc] using this)
   have e5:wr.cell? ⟨sb,so+j*9+5,none⟩=some (E j 4):=(hnx.cell (p:=⟨sb,so+j*9+5,none⟩) hbl).trans (by have:=hE j 4 hjl (by decide);simpa [Nat.add_assoc] using this)
   have e6:wr.cell? ⟨sb,so+j*9+6,none⟩=some (E j 5):=(hnx.cell (p:=⟨sb,so+j*9+6,none⟩) hbl).trans (by have:=hE j 5 hjl (by decide);simpa [Nat.add_assoc] using this)
   have e7:wr.cell? ⟨sb,so+j*9+7,none⟩=some (E j 6):=(hnx.cell (p:=⟨sb,so+j*9+7,none⟩) hbl).trans (by have:=hE j 6 hjl (by decide);simpa [Nat.add_assoc] using this)
   have e8:wr.cell? ⟨sb,so+j*9+8,none⟩=some (E j 7):=(hnx.cell (p:=⟨sb,so+j*9+8,none⟩) hbl).trans (by have:=hE j 7 hjl (by decide);simpa [Nat.add_assoc] using this)
   simp only [Je7] at hy
   gi_wp2
   refine hR.mono ?_
   rintro e W3 (⟨rfl,hJ3,hk3⟩|⟨rfl,hJx3⟩)
   ·gi_wp2
    go_roundw
    case rel=>exact ⟨k+1,by omega,by simp;omega,by rw [JbE,show len-1-k=j by omega];exact hJ3,hnx.trans hk3⟩
    case measure=>simp [intOf]
   ·gi_wp2
    refine bodyPost_ret (results_none rfl _ _ _) rfl ?_
    exact ⟨⟨_,rfl⟩,.inr ⟨_,⟨k+1,by omega,by rw [JbE,show len-1-k=j by omega]⟩,hJx3⟩⟩
  ·obtain rfl:k=len:=by omega
   have hBs':=(hnx.cell (p:=⟨Bs,0,none⟩) hBn).trans hBs
   gi_wp2
   go_end0
   exact ⟨⟨_,rfl⟩,.inl ⟨_,rfl,hJs⟩⟩
set_option maxHeartbeats 1000000 in
theorem ZfW (F:Fence) (n:Nat) (h5:F.fn 272) (hro:F.round=none) (a:Option Addr) (len cap:Nat) (w:World):
  CallsIn F n Tryz.prog 272 #[.slice a len cap] w fun e w'=>e= .returned (.func (.func 299) #[] #[.pointer (some ⟨w.heap.size,0,none⟩)])∧w'=w.alloc (.cells #[.slice a len cap] 226):=by
 refine callsIn_of_wp Tryz.func272 rfl h5 ?_ hro
 simp only [Tryz.ntmps272,List.size_toArray,List.length_cons,List.length_nil,Nat.reduceAdd,Nat.reduceSub,Array.replicate_succ,Array.replicate_zero,List.push_toArray,List.append_toArray,List.nil_append,List.cons_append]
 gi_wp2
 go_ret
 exact ⟨rfl,rfl⟩
theorem Xeq (F:Fence) (n:Nat) (h7:F.fn 299) (hro:F.round=none) (hn:1≤n) (Bs n₀ sb so len cap:Nat) (a:Option Addr) (L:Nat→Int) (E:Nat→Nat→Value) (hlen:len<1099511627776) (ha:0<len→a=some ⟨sb,so,none⟩) (hb:0<len→sb<n₀)
  (w:World) (hBs:Bs<w.heap.size) (hBn:Bs<n₀) (hn₀:n₀≤w.heap.size) (hc:w.cell? ⟨Bs,0,none⟩=some (.slice a len cap))
  (hL: ∀j,j<len→w.cell? ⟨sb,so+j*9,none⟩=some (.int .i64 (L j))) (hE: ∀j i,j<len→i<8→w.cell? ⟨sb,so+j*9+1+i,none⟩=some (E j i)):
  SeqStopsK F n Tryz.prog 299 #[.pointer (some ⟨Bs,0,none⟩)] (fun x:Nat=> #[.int .i64 (x:Nat),Je7 L E x]) (Below n₀) (fun ys=>ys=JaW len len) (fun pre=> ∃k,k≤len∧pre=JaW len k) len w:=
 fun l J Jx W hW _ _ hY h0=>by
  have hc':=(hW.cell (p:=⟨Bs,0,none⟩) hBs).trans hc
  have hW':=hW.mono hn₀
  exact Zfx F n h7 hro hn l Bs n₀ sb so len cap a L E hlen ha hb J Jx hY W hc' hBn
   (fun j hj=>(hW'.cell (p:=⟨sb,so+j*9,none⟩) (hb (by omega))).trans (hL j hj))
   (fun j i hj hi=>(hW'.cell (p:=⟨sb,so+j*9+1+i,none⟩) (hb (by omega))).trans (hE j i hj hi)) h0
end Go.Proofs.YtmchcjaomcdbmaaGreat.Gen
namespace Go.Proofs.YtmchcjaomcdbmaaGreat.Gen
open Go Go.Proofs.YtmchcjaomcdbmaaGreat.Abs Go.RowKit Go.Shelf
attribute [local go_sem] Oper.semAt_some
set_option maxHeartbeats 1000000 in
theorem JfW (F:Fence) (n:Nat) (h5:F.fn 280) (hro:F.round=none) (db dof m c:Nat) (a:Option Addr) (x:Int) (w:World) (h0:w.cell? ⟨db,dof,none⟩=some (.slice a m c)) (hx0:0≤x) (hxm:x<m):
  CallsIn F n Tryz.prog 280 #[.pointer (some ⟨db,dof,none⟩),.int .i64 x] w fun e w'=>e= .returned (.int .i64 0)∧w'=w:=by
 refine callsIn_of_wp Tryz.func280 rfl h5 ?_ hro
 simp only [Tryz.ntmps280,List.size_toArray,List.length_cons,List.length_nil,Nat.reduceAdd,Nat.reduceSub,Array.replicate_succ,Array.replicate_zero,List.push_toArray,List.append_toArray,List.nil_append,List.cons_append]
 gi_wp2
 all_goals first
  |(go_ret;exact ⟨rfl,rfl⟩)
  |(exfalso;omega)
theorem w64 (x:Int):IntKind.wrap .i64 x=Go.RowKit.wrap64 x:=by unfold Go.RowKit.wrap64;exact IntKind.wrap_i64 x
theorem Qi {w:World} {p:Addr} {v:Value} {o:Obj} (h:w.cell? p=some v):(w.alloc o).cell? p=some v:=by
 obtain ⟨o',ho,_⟩:=cells_of_cell h
 exact (World.cell?_of_block (Below.heap_alloc w o p.block (Array.getElem?_eq_some_iff.1 ho).1)).trans h
theorem ZH {w:World} {p:Addr} {v:Value} {o:Obj} (h:w.cell? p=some v):(w.alloc o).frozen? p=w.frozen? p:=by
 obtain ⟨o',ho,_⟩:=cells_of_cell h
 exact World.frozen?_of_block (Below.heap_alloc w o p.block (Array.getElem?_eq_some_iff.1 ho).1)
theorem Za (w:World) (b o b' o':Nat) (v u:Value) (h:w.cell? ⟨b',o',none⟩=some u) (hne:b'≠b∨o'≠o):(w.setCell ⟨b,o,none⟩ v).cell? ⟨b',o',none⟩=some u:=by
 rw [World.cell?_setCell_other _ _ _ _ (by simp;omega)];exact h
set_option maxHeartbeats 1000000 in
theorem Jfx (F:Fence) (n:Nat) (h5:F.fn 131) (h6:F.fn 211) (hro:F.round=none) (b off:Nat) (r:Int) (w:World) (hc:w.cell? ⟨b,off,none⟩=some (.int .i64 r)) (hz:w.frozen? ⟨b,off,none⟩=false):
  CallsIn F n Tryz.prog 131 #[.pointer (some ⟨b,off,none⟩),.int .i64 1] w fun e w'=>e= .returned (.int .i64 (wrap64 (r+1)))∧w'=w.setCell ⟨b,off,none⟩ (.int .i64 (wrap64 (r+1))):=by
 have hadd:=run_call_add (P:=Tryz.prog) Tryz.func211 (by kernel_rfl) (by kernel_rfl) (by kernel_rfl) .i64 (by kernel_rfl) (y:=1) (s:=wrap64 (r+1)) hc hz (by simp [go_sem,w64])
 refine callsIn_of_wp Tryz.func131 rfl h5 ?_ hro
 simp only [Tryz.ntmps131,List.size_toArray,List.length_cons,List.length_nil,Nat.reduceAdd,Nat.reduceSub,Array.replicate_succ,Array.replicate_zero,List.push_toArray,List.append_toArray,List.nil_append,List.cons_append]
 gi_wp2
 go_ret
 exact ⟨rfl,rfl⟩
structure DevW (w:World) (db dof lb lo m c k:Nat) (r:Int) (W:Nat→Value):Prop where
 q0:w.cell? ⟨db,dof,none⟩=some (.slice (some ⟨lb,lo,none⟩) m c)
 l0:w.cell? ⟨lb,lo+k*8,none⟩=some (W 0)
 l1:w.cell? ⟨lb,lo+k*8+1,none⟩=some (W 1)
 l2:w.cell? ⟨lb,lo+k*8+2,none⟩=some (W 2)
 l3:w.cell? ⟨lb,lo+k*8+3,none⟩=some (W 3)
 l4:w.cell? ⟨lb,lo+k*8+4,none⟩=some (W 4)
 l5:w.cell? ⟨lb,lo+k*8+5,none⟩=some (W 5)
 l6:w.cell? ⟨lb,lo+k*8+6,none⟩=some (W 6)
 l7:w.cell? ⟨lb,lo+k*8+7,none⟩=some (W 7)
theorem DevW.alloc {w:World} {db dof lb lo m c k:Nat} {r:Int} {W:Nat→Value} {o:Obj} (h:DevW w db dof lb lo m c k r W):DevW (w.alloc o) db dof lb lo m c k r W:=
 ⟨Qi h.q0,Qi h.l0,Qi h.l1,Qi h.l2,Qi h.l3,Qi h.l4,Qi h.l5,Qi h.l6,Qi h.l7⟩
theorem DevW.set {w:World} {db dof lb lo m c k:Nat} {r:Int} {W:Nat→Value} {v:Value} (h:DevW w db dof lb lo m c k r W) (hne:lb≠db):DevW (w.setCell ⟨db,dof+2,none⟩ v) db dof lb lo m c k r W:=
 ⟨Za _ _ _ _ _ _ _ h.q0 (.inr (by omega)),Za _ _ _ _ _ _ _ h.l0 (.inl hne),Za _ _ _ _ _ _ _ h.l1 (.inl hne),Za _ _ _ _ _ _ _ h.l2 (.inl hne),Za _ _ _ _ _ _ _ h.l3 (.inl hne),Za _ _ _ _ _ _ _ h.l4 (.inl hne),Za _ _ _ _ _ _ _ h.l5 (.inl hne),Za _ _ _ _ _ _ _ h.l6 (.inl hne),Za _ _ _ _ _ _ _ h.l7 (.inl hne)⟩
structure NewL (w:World) (b:Nat):Prop where
 z0:w.cell? ⟨b,0,none⟩=some (.int .u64 0)
 z1:w.cell? ⟨b,1,none⟩=some (.int .u64 0)
 z2:w.cell? ⟨b,2,none⟩=some (.int .u64 0)
 z3:w.cell? ⟨b,3,none⟩=some (.int .u64 0)
 z4:w.cell? ⟨b,4,none⟩=some (.int .u64 0)
 z5:w.cell? ⟨b,5,none⟩=some (.int .u64 0)
 z6:w.cell? ⟨b,6,none⟩=some (.int .u64 0)
 z7:w.cell? ⟨b,7,none⟩=some (.int .u64 0)
 f0:w.frozen? ⟨b,0,none⟩=false
 f1:w.frozen? ⟨b,1,none⟩=false
 f2:w.frozen? ⟨b,2,none⟩=false
 f3:w.frozen? ⟨b,3,none⟩=false
 f4:w.frozen? ⟨b,4,none⟩=false
 f5:w.frozen? ⟨b,5,none⟩=false
 f6:w.frozen? ⟨b,6,none⟩=false
 f7:w.frozen? ⟨b,7,none⟩=false
theorem NewL.new (w:World) (t:TypeId):NewL (w.alloc (.cells #[.int .u64 0,.int .u64 0,.int .u64 0,.int .u64 0,.int .u64 0,.int .u64 0,.int .u64 0,.int .u64 0] t)) w.heap.size:=by
 constructor<;>(first|unfold World.cell? |unfold World.frozen?)<;>simp only [World.alloc_heap_new]<;>rfl
theorem NewL.set {w:World} {b p o:Nat} {v:Value} (h:NewL w b) (hne:b≠p):NewL (w.setCell ⟨p,o,none⟩ v) b:=
 ⟨Za _ _ _ _ _ _ _ h.z0 (.inl hne),Za _ _ _ _ _ _ _ h.z1 (.inl hne),Za _ _ _ _ _ _ _ h.z2 (.inl hne),Za _ _ _ _ _ _ _ h.z3 (.inl hne),Za _ _ _ _ _ _ _ h.z4 (.inl hne),Za _ _ _ _ _ _ _ h.z5 (.inl hne),Za _ _ _ _ _ _ _ h.z6 (.inl hne),Za _ _ _ _ _ _ _ h.z7 (.inl hne),(World.frozen?_setCell _ _ _ _).trans h.f0,(World.frozen?_setCell _ _ _ _).trans h.f1,(World.frozen?_setCell _ _ _ _).trans h.f2,(World.frozen?_setCell _ _ _ _).trans h.f3,(World.frozen?_setCell _ _ _ _).trans h.f4,(World.frozen?_setCell _ _ _ _).trans h.f5,(World.frozen?_setCell _ _ _ _).trans h.f6,(World.frozen?_setCell _ _ _ _).trans h.f7⟩
def QcM (w:World) (b:Nat) (W:Nat→Value):World:=((((((((w.setCell ⟨b,0,none⟩ (W 0)).setCell ⟨b,1,none⟩ (W 1)).setCell ⟨b,2,none⟩ (W 2)).setCell ⟨b,3,none⟩ (W 3)).setCell ⟨b,4,none⟩ (W 4)).setCell ⟨b,5,none⟩ (W 5)).setCell ⟨b,6,none⟩ (W 6)).setCell ⟨b,7,none⟩ (W 7))
theorem QfR {P:Program} {w:World} {b:Nat} {W:Nat→Value} (h:NewL w b) (hc: ∀i,i<8→isCell (W i)=true):
  (((store ⟨b,0,none⟩ (W 0)).run P w).andThen fun a w'=>((store ⟨b,1,none⟩ (W 1)).run P w').andThen fun a w'=>((store ⟨b,2,none⟩ (W 2)).run P w').andThen fun a w'=>((store ⟨b,3,none⟩ (W 3)).run P w').andThen fun a w'=>((store ⟨b,4,none⟩ (W 4)).run P w').andThen fun a w'=>((store ⟨b,5,none⟩ (W 5)).run P w').andThen fun a w'=>((store ⟨b,6,none⟩ (W 6)).run P w').andThen fun a w'=>(store ⟨b,7,none⟩ (W 7)).run P w')= .ok () (QcM w b W):=by
 rw [Qk (P:=P) h.z0 h.f0 (hc 0 (by decide))]
 simp only [Result.andThen]
 rw [Qk (P:=P) (Za _ _ _ _ _ _ _ h.z1 (.inr (by decide))) ((World.frozen?_setCell _ _ _ _).trans h.f1) (hc 1 (by decide))]
 simp only [Result.andThen]
 rw [Qk (P:=P) (Za _ _ _ _ _ _ _ (Za _ _ _ _ _ _ _ h.z2 (.inr (by decide))) (.inr (by decide))) ((World.frozen?_setCell _ _ _ _).trans ((World.frozen?_setCell _ _ _ _).trans h.f2)) (hc 2 (by decide))]
 simp only [Result.andThen]
 rw [Qk (P:=P) (Za _ _ _ _ _ _ _ (Za _ _ _ _ _ _ _ (Za _ _ _ _ _ _ _ h.z3 (.inr (by decide))) (.inr (by decide))) (.inr (by decide))) ((World.frozen?_setCell _ _ _ _).trans ((World.frozen?_setCell _ _ _ _).trans ((World.frozen?_setCell _ _ _ _).trans h.f3))) (hc 3 (by decide))]
 simp only [Result.andThen]
 rw [Qk (P:=P) (Za _ _ _ _ _ _ _ (Za _ _ _ _ _ _ _ (Za _ _ _ _ _ _ _ (Za _ _ _ _ _ _ _ h.z4 (.inr (by decide))) (.inr (by decide))) (.inr (by decide))) (.inr (by decide))) ((World.frozen?_setCell _ _ _ _).trans ((World.frozen?_setCell _ _ _ _).trans ((World.frozen?_setCell _ _ _ _).trans ((World.frozen?_setCell _ _ _ _).trans h.f4)))) (hc 4 (by decide))]
 simp only [Result.andThen]
 rw [Qk (P:=P) (Za _ _ _ _ _ _ _ (Za _ _ _ _ _ _ _ (Za _ _ _ _ _ _ _ (Za _ _ _ _ _ _ _ (Za _ _ _ _ _ _ _ h.z5 (.inr (by decide))) (.inr (by decide))) (.inr (by decide))) (.inr (by decide))) (.inr (by decide))) ((World.frozen?_setCell _ _ _ _).trans ((World.frozen?_setCell _ _ _ _).trans ((World.frozen?_setCell _ _ _ _).trans ((World.frozen?_setCell _ _ _ _).trans ((World.frozen?_setCell _ _ _ _).trans h.f5))))) (hc 5 (by decide))]
 simp only [Result.andThen]
 rw [Qk (P:=P) (Za _ _ _ _ _ _ _ (Za _ _ _ _ _ _ _ (Za _ _ _ _ _ _ _ (Za _ _ _ _ _ _ _ (Za _ _ _ _ _ _ _ (Za _ _ _ _ _ _ _ h.z6 (.inr (by decide))) (.inr (by decide))) (.inr (by decide))) (.inr (by decide))) (.inr (by decide))) (.inr (by decide))) ((World.frozen?_setCell _ _ _ _).trans ((World.frozen?_setCell _ _ _ _).trans ((World.frozen?_setCell _ _ _ _).trans ((World.frozen?_setCell _ _ _ _).trans ((World.frozen?_setCell _ _ _ _).trans ((World.frozen?_setCell _ _ _ _).trans h.f6)))))) (hc 6 (by decide))]
 simp only [Result.andThen]
 rw [Qk (P:=P) (Za _ _ _ _ _ _ _ (Za _ _ _ _ _ _ _ (Za _ _ _ _ _ _ _ (Za _ _ _ _ _ _ _ (Za _ _ _ _ _ _ _ (Za _ _ _ _ _ _ _ (Za _ _ _ _ _ _ _ h.z7 (.inr (by decide))) (.inr (by decide))) (.inr (by decide))) (.inr (by decide))) (.inr (by decide))) (.inr (by decide))) (.inr (by decide))) ((World.frozen?_setCell _ _ _ _).trans ((World.frozen?_setCell _ _ _ _).trans ((World.frozen?_setCell _ _ _ _).trans ((World.frozen?_setCell _ _ _ _).trans ((World.frozen?_setCell _ _ _ _).trans ((World.frozen?_setCell _ _ _ _).trans ((World.frozen?_setCell _ _ _ _).trans h.f7))))))) (hc 7 (by decide))]
 rfl
theorem XcC {w:World} {b:Nat} {W:Nat→Value} (h:NewL w b): ∀i,i<8→(QcM w b W).cell? ⟨b,i,none⟩=some (W i):=by
 intro i hi
 match i,hi with
 | 0,_=>exact (Za _ _ _ _ _ _ _ (Za _ _ _ _ _ _ _ (Za _ _ _ _ _ _ _ (Za _ _ _ _ _ _ _ (Za _ _ _ _ _ _ _ (Za _ _ _ _ _ _ _ (Za _ _ _ _ _ _ _ (World.cell?_setCell_same' _ _ _ (by rw [h.z0];rfl)) (.inr (by decide))) (.inr (by decide))) (.inr (by decide))) (.inr (by decide))) (.inr (by decide))) (.inr (by decide))) (.inr (by decide)))
 | 1,_=>exact (Za _ _ _ _ _ _ _ (Za _ _ _ _ _ _ _ (Za _ _ _ _ _ _ _ (Za _ _ _ _ _ _ _ (Za _ _ _ _ _ _ _ (Za _ _ _ _ _ _ _ (World.cell?_setCell_same' _ _ _ (by rw [(Za _ _ _ _ _ _ _ h.z1 (.inr (by decide)))];rfl)) (.inr (by decide))) (.inr (by decide))) (.inr (by decide))) (.inr (by decide))) (.inr (by decide))) (.inr (by decide)))
 | 2,_=>exact (Za _ _ _ _ _ _ _ (Za _ _ _ _ _ _ _ (Za _ _ _ _ _ _ _ (Za _ _ _ _ _ _ _ (Za _ _ _ _ _ _ _ (World.cell?_setCell_same' _ _ _ (by rw [(Za _ _ _ _ _ _ _ (Za _ _ _ _ _ _ _ h.z2 (.inr (by decide))) (.inr (by decide)))];rfl)) (.inr (by decide))) (.inr (by decide))) (.inr (by decide))) (.inr (by decide))) (.inr (by decide)))
 | 3,_=>exact (Za _ _ _ _ _ _ _ (Za _ _ _ _ _ _ _ (Za _ _ _ _ _ _ _ (Za _ _ _ _ _ _ _ (World.cell?_setCell_same' _ _ _ (by rw [(Za _ _ _ _ _ _ _ (Za _ _ _ _ _ _ _ (Za _ _ _ _ _ _ _ h.z3 (.inr (by decide))) (.inr (by decide))) (.inr (by decide)))];rfl)) (.inr (by decide))) (.inr (by decide))) (.inr (by decide))) (.inr (by decide)))
 | 4,_=>exact (Za _ _ _ _ _ _ _ (Za _ _ _ _ _ _ _ (Za _ _ _ _ _ _ _ (World.cell?_setCell_same' _ _ _ (by rw [(Za _ _ _ _ _ _ _ (Za _ _ _ _ _ _ _ (Za _ _ _ _ _ _ _ (Za _ _ _ _ _ _ _ h.z4 (.inr (by decide))) (.inr (by decide))) (.inr (by decide))) (.inr (by decide)))];rfl)) (.inr (by decide))) (.inr (by decide))) (.inr (by decide)))
 | 5,_=>exact (Za _ _ _ _ _ _ _ (Za _ _ _ _ _ _ _ (World.cell?_setCell_same' _ _ _ (by rw [(Za _ _ _ _ _ _ _ (Za _ _ _ _ _ _ _ (Za _ _ _ _ _ _ _ (Za _ _ _ _ _ _ _ (Za _ _ _ _ _ _ _ h.z5 (.inr (by decide))) (.inr (by decide))) (.inr (by decide))) (.inr (by decide))) (.inr (by decide)))];rfl)) (.inr (by decide))) (.inr (by decide)))
 | 6,_=>exact (Za _ _ _ _ _ _ _ (World.cell?_setCell_same' _ _ _ (by rw [(Za _ _ _ _ _ _ _ (Za _ _ _ _ _ _ _ (Za _ _ _ _ _ _ _ (Za _ _ _ _ _ _ _ (Za _ _ _ _ _ _ _ (Za _ _ _ _ _ _ _ h.z6 (.inr (by decide))) (.inr (by decide))) (.inr (by decide))) (.inr (by decide))) (.inr (by decide))) (.inr (by decide)))];rfl)) (.inr (by decide)))
 | 7,_=>exact (World.cell?_setCell_same' _ _ _ (by rw [(Za _ _ _ _ _ _ _ (Za _ _ _ _ _ _ _ (Za _ _ _ _ _ _ _ (Za _ _ _ _ _ _ _ (Za _ _ _ _ _ _ _ (Za _ _ _ _ _ _ _ (Za _ _ _ _ _ _ _ h.z7 (.inr (by decide))) (.inr (by decide))) (.inr (by decide))) (.inr (by decide))) (.inr (by decide))) (.inr (by decide))) (.inr (by decide)))];rfl))
theorem Jc3 {w:World} {b p o:Nat} {W:Nat→Value} {v:Value} (h:w.cell? ⟨p,o,none⟩=some v) (hne:p≠b):(QcM w b W).cell? ⟨p,o,none⟩=some v:=
 (Za _ _ _ _ _ _ _ (Za _ _ _ _ _ _ _ (Za _ _ _ _ _ _ _ (Za _ _ _ _ _ _ _ (Za _ _ _ _ _ _ _ (Za _ _ _ _ _ _ _ (Za _ _ _ _ _ _ _ (Za _ _ _ _ _ _ _ h (by omega)) (by omega)) (by omega)) (by omega)) (by omega)) (by omega)) (by omega)) (by omega))
theorem put8_frozen {w:World} {b:Nat} {W:Nat→Value} {a:Addr}:(QcM w b W).frozen? a=w.frozen? a:=by
 simp only [QcM,World.frozen?_setCell]
theorem Zb2 {w:World} {b:Nat} {W:Nat→Value} {n:Nat} (hb:n≤b):Below n w (QcM w b W):=(((((((((Below.refl n w).setCell (p:=⟨b,0,none⟩) hb (W 0)).setCell (p:=⟨b,1,none⟩) hb (W 1)).setCell (p:=⟨b,2,none⟩) hb (W 2)).setCell (p:=⟨b,3,none⟩) hb (W 3)).setCell (p:=⟨b,4,none⟩) hb (W 4)).setCell (p:=⟨b,5,none⟩) hb (W 5)).setCell (p:=⟨b,6,none⟩) hb (W 6)).setCell (p:=⟨b,7,none⟩) hb (W 7))
theorem Zc3 (w:World) (b:Nat) (W:Nat→Value):KeepsOthers w (QcM w b W):=((((((((KeepsOthers.setCell w ⟨b,0,none⟩ (W 0)).trans (KeepsOthers.setCell _ ⟨b,1,none⟩ (W 1))).trans (KeepsOthers.setCell _ ⟨b,2,none⟩ (W 2))).trans (KeepsOthers.setCell _ ⟨b,3,none⟩ (W 3))).trans (KeepsOthers.setCell _ ⟨b,4,none⟩ (W 4))).trans (KeepsOthers.setCell _ ⟨b,5,none⟩ (W 5))).trans (KeepsOthers.setCell _ ⟨b,6,none⟩ (W 6))).trans (KeepsOthers.setCell _ ⟨b,7,none⟩ (W 7)))
structure NewE (w:World) (b:Nat):Prop where
 z0:w.cell? ⟨b,1,none⟩=some (.int .u64 0)
 z1:w.cell? ⟨b,2,none⟩=some (.int .u64 0)
 z2:w.cell? ⟨b,3,none⟩=some (.int .u64 0)
 z3:w.cell? ⟨b,4,none⟩=some (.int .u64 0)
 z4:w.cell? ⟨b,5,none⟩=some (.int .u64 0)
 z5:w.cell? ⟨b,6,none⟩=some (.int .u64 0)
 z6:w.cell? ⟨b,7,none⟩=some (.int .u64 0)
 z7:w.cell? ⟨b,8,none⟩=some (.int .u64 0)
 f0:w.frozen? ⟨b,1,none⟩=false
 f1:w.frozen? ⟨b,2,none⟩=false
 f2:w.frozen? ⟨b,3,none⟩=false
 f3:w.frozen? ⟨b,4,none⟩=false
 f4:w.frozen? ⟨b,5,none⟩=false
 f5:w.frozen? ⟨b,6,none⟩=false
 f6:w.frozen? ⟨b,7,none⟩=false
 f7:w.frozen? ⟨b,8,none⟩=false
theorem NewE.new (w:World) (v:Int) (t:TypeId):NewE (w.alloc (.cells #[.int .i64 v,.int .u64 0,.int .u64 0,.int .u64 0,.int .u64 0,.int .u64 0,.int .u64 0,.int .u64 0,.int .u64 0] t)) w.heap.size:=by
 constructor<;>(first|unfold World.cell? |unfold World.frozen?)<;>simp only [World.alloc_heap_new]<;>rfl
theorem NewE.set {w:World} {b p o:Nat} {v:Value} (h:NewE w b) (hne:b≠p):NewE (w.setCell ⟨p,o,none⟩ v) b:=
 ⟨Za _ _ _ _ _ _ _ h.z0 (.inl hne),Za _ _ _ _ _ _ _ h.z1 (.inl hne),Za _ _ _ _ _ _ _ h.z2 (.inl hne),Za _ _ _ _ _ _ _ h.z3 (.inl hne),Za _ _ _ _ _ _ _ h.z4 (.inl hne),Za _ _ _ _ _ _ _ h.z5 (.inl hne),Za _ _ _ _ _ _ _ h.z6 (.inl hne),Za _ _ _ _ _ _ _ h.z7 (.inl hne),(World.frozen?_setCell _ _ _ _).trans h.f0,(World.frozen?_setCell _ _ _ _).trans h.f1,(World.frozen?_setCell _ _ _ _).trans h.f2,(World.frozen?_setCell _ _ _ _).trans h.f3,(World.frozen?_setCell _ _ _ _).trans h.f4,(World.frozen?_setCell _ _ _ _).trans h.f5,(World.frozen?_setCell _ _ _ _).trans h.f6,(World.frozen?_setCell _ _ _ _).trans h.f7⟩
def putE (w:World) (b:Nat) (W:Nat→Value):World:=((((((((w.setCell ⟨b,1,none⟩ (W 0)).setCell ⟨b,2,none⟩ (W 1)).setCell ⟨b,3,none⟩ (W 2)).setCell ⟨b,4,none⟩ (W 3)).setCell ⟨b,5,none⟩ (W 4)).setCell ⟨b,6,none⟩ (W 5)).setCell ⟨b,7,none⟩ (W 6)).setCell ⟨b,8,none⟩ (W 7))
theorem Zgt {P:Program} {w:World} {b:Nat} {W:Nat→Value} (h:NewE w b) (hc: ∀i,i<8→isCell (W i)=true):
  (((store ⟨b,1,none⟩ (W 0)).run P w).andThen fun a w'=>((store ⟨b,2,none⟩ (W 1)).run P w').andThen fun a w'=>((store ⟨b,3,none⟩ (W 2)).run P w').andThen fun a w'=>((store ⟨b,4,none⟩ (W 3)).run P w').andThen fun a w'=>((store ⟨b,5,none⟩ (W 4)).run P w').andThen fun a w'=>((store ⟨b,6,none⟩ (W 5)).run P w').andThen fun a w'=>((store ⟨b,7,none⟩ (W 6)).run P w').andThen fun a w'=>(store ⟨b,8,none⟩ (W 7)).run P w')= .ok () (putE w b W):=by
 rw [Qk (P:=P) h.z0 h.f0 (hc 0 (by decide))]
 simp only [Result.andThen]
 rw [Qk (P:=P) (Za _ _ _ _ _ _ _ h.z1 (.inr (by decide))) ((World.frozen?_setCell _ _ _ _).trans h.f1) (hc 1 (by decide))]
 simp only [Result.andThen]
 rw [Qk (P:=P) (Za _ _ _ _ _ _ _ (Za _ _ _ _ _ _ _ h.z2 (.inr (by decide))) (.inr (by decide))) ((World.frozen?_setCell _ _ _ _).trans ((World.frozen?_setCell _ _ _ _).trans h.f2)) (hc 2 (by decide))]
 simp only [Result.andThen]
 rw [Qk (P:=P) (Za _ _ _ _ _ _ _ (Za _ _ _ _ _ _ _ (Za _ _ _ _ _ _ _ h.z3 (.inr (by decide))) (.inr (by decide))) (.inr (by decide))) ((World.frozen?_setCell _ _ _ _).trans ((World.frozen?_setCell _ _ _ _).trans ((World.frozen?_setCell _ _ _ _).trans h.f3))) (hc 3 (by decide))]
 simp only [Result.andThen]
 rw [Qk (P:=P) (Za _ _ _ _ _ _ _ (Za _ _ _ _ _ _ _ (Za _ _ _ _ _ _ _ (Za _ _ _ _ _ _ _ h.z4 (.inr (by decide))) (.inr (by decide))) (.inr (by decide))) (.inr (by decide))) ((World.frozen?_setCell _ _ _ _).trans ((World.frozen?_setCell _ _ _ _).trans ((World.frozen?_setCell _ _ _ _).trans ((World.frozen?_setCell _ _ _ _).trans h.f4)))) (hc 4 (by decide))]
 simp only [Result.andThen]
 rw [Qk (P:=P) (Za _ _ _ _ _ _ _ (Za _ _ _ _ _ _ _ (Za _ _ _ _ _ _ _ (Za _ _ _ _ _ _ _ (Za _ _ _ _ _ _ _ h.z5 (.inr (by decide))) (.inr (by decide))) (.inr (by decide))) (.inr (by decide))) (.inr (by decide))) ((World.frozen?_setCell _ _ _ _).trans ((World.frozen?_setCell _ _ _ _).trans ((World.frozen?_setCell _ _ _ _).trans ((World.frozen?_setCell _ _ _ _).trans ((World.frozen?_setCell _ _ _ _).trans h.f5))))) (hc 5 (by decide))]
 simp only [Result.andThen]
 rw [Qk (P:=P) (Za _ _ _ _ _ _ _ (Za _ _ _ _ _ _ _ (Za _ _ _ _ _ _ _ (Za _ _ _ _ _ _ _ (Za _ _ _ _ _ _ _ (Za _ _ _ _ _ _ _ h.z6 (.inr (by decide))) (.inr (by decide))) (.inr (by decide))) (.inr (by decide))) (.inr (by decide))) (.inr (by decide))) ((World.frozen?_setCell _ _ _ _).trans ((World.frozen?_setCell _ _ _ _).trans ((World.frozen?_setCell _ _ _ _).trans ((World.frozen?_setCell _ _ _ _).trans ((World.frozen?_setCell _ _ _ _).trans ((World.frozen?_setCell _ _ _ _).trans h.f6)))))) (hc 6 (by decide))]
 simp only [Result.andThen]
 rw [Qk (P:=P) (Za _ _ _ _ _ _ _ (Za _ _ _ _ _ _ _ (Za _ _ _ _ _ _ _ (Za _ _ _ _ _ _ _ (Za _ _ _ _ _ _ _ (Za _ _ _ _ _ _ _ (Za _ _ _ _ _ _ _ h.z7 (.inr (by decide))) (.inr (by decide))) (.inr (by decide))) (.inr (by decide))) (.inr (by decide))) (.inr (by decide))) (.inr (by decide))) ((World.frozen?_setCell _ _ _ _).trans ((World.frozen?_setCell _ _ _ _).trans ((World.frozen?_setCell _ _ _ _).trans ((World.frozen?_setCell _ _ _ _).trans ((World.frozen?_setCell _ _ _ _).trans ((World.frozen?_setCell _ _ _ _).trans ((World.frozen?_setCell _ _ _ _).trans h.f7))))))) (hc 7 (by decide))]
 rfl
theorem Zaw {w:World} {b:Nat} {W:Nat→Value} (h:NewE w b): ∀i,i<8→(putE w b W).cell? ⟨b,1+i,none⟩=some (W i):=by
 intro i hi
 match i,hi with
 | 0,_=>exact (Za _ _ _ _ _ _ _ (Za _ _ _ _ _ _ _ (Za _ _ _ _ _ _ _ (Za _ _ _ _ _ _ _ (Za _ _ _ _ _ _ _ (Za _ _ _ _ _ _ _ (Za _ _ _ _ _ _ _ (World.cell?_setCell_same' _ _ _ (by rw [h.z0];rfl)) (.inr (by decide))) (.inr (by decide))) (.inr (by decide))) (.inr (by decide))) (.inr (by decide))) (.inr (by decide))) (.inr (by decide)))
 | 1,_=>exact (Za _ _ _ _ _ _ _ (Za _ _ _ _ _ _ _ (Za _ _ _ _ _ _ _ (Za _ _ _ _ _ _ _ (Za _ _ _ _ _ _ _ (Za _ _ _ _ _ _ _ (World.cell?_setCell_same' _ _ _ (by rw [(Za _ _ _ _ _ _ _ h.z1 (.inr (by decide)))];rfl)) (.inr (by decide))) (.inr (by decide))) (.inr (by decide))) (.inr (by decide))) (.inr (by decide))) (.inr (by decide)))
 | 2,_=>exact (Za _ _ _ _ _ _ _ (Za _ _ _ _ _ _ _ (Za _ _ _ _ _ _ _ (Za _ _ _ _ _ _ _ (Za _ _ _ _ _ _ _ (World.cell?_setCell_same' _ _ _ (by rw [(Za _ _ _ _ _ _ _ (Za _ _ _ _ _ _ _ h.z2 (.inr (by decide))) (.inr (by decide)))];rfl)) (.inr (by decide))) (.inr (by decide))) (.inr (by decide))) (.inr (by decide))) (.inr (by decide)))
 | 3,_=>exact (Za _ _ _ _ _ _ _ (Za _ _ _ _ _ _ _ (Za _ _ _ _ _ _ _ (Za _ _ _ _ _ _ _ (World.cell?_setCell_same' _ _ _ (by rw [(Za _ _ _ _ _ _ _ (Za _ _ _ _ _ _ _ (Za _ _ _ _ _ _ _ h.z3 (.inr (by decide))) (.inr (by decide))) (.inr (by decide)))];rfl)) (.inr (by decide))) (.inr (by decide))) (.inr (by decide))) (.inr (by decide)))
 | 4,_=>exact (Za _ _ _ _ _ _ _ (Za _ _ _ _ _ _ _ (Za _ _ _ _ _ _ _ (World.cell?_setCell_same' _ _ _ (by rw [(Za _ _ _ _ _ _ _ (Za _ _ _ _ _ _ _ (Za _ _ _ _ _ _ _ (Za _ _ _ _ _ _ _ h.z4 (.inr (by decide))) (.inr (by decide))) (.inr (by decide))) (.inr (by decide)))];rfl)) (.inr (by decide))) (.inr (by decide))) (.inr (by decide)))
 | 5,_=>exact (Za _ _ _ _ _ _ _ (Za _ _ _ _ _ _ _ (World.cell?_setCell_same' _ _ _ (by rw [(Za _ _ _ _ _ _ _ (Za _ _ _ _ _ _ _ (Za _ _ _ _ _ _ _ (Za _ _ _ _ _ _ _ (Za _ _ _ _ _ _ _ h.z5 (.inr (by decide))) (.inr (by decide))) (.inr (by decide))) (.inr (by decide))) (.inr (by decide)))];rfl)) (.inr (by decide))) (.inr (by decide)))
 | 6,_=>exact (Za _ _ _ _ _ _ _ (World.cell?_setCell_same' _ _ _ (by rw [(Za _ _ _ _ _ _ _ (Za _ _ _ _ _ _ _ (Za _ _ _ _ _ _ _ (Za _ _ _ _ _ _ _ (Za _ _ _ _ _ _ _ (Za _ _ _ _ _ _ _ h.z6 (.inr (by decide))) (.inr (by decide))) (.inr (by decide))) (.inr (by decide))) (.inr (by decide))) (.inr (by decide)))];rfl)) (.inr (by decide)))
 | 7,_=>exact (World.cell?_setCell_same' _ _ _ (by rw [(Za _ _ _ _ _ _ _ (Za _ _ _ _ _ _ _ (Za _ _ _ _ _ _ _ (Za _ _ _ _ _ _ _ (Za _ _ _ _ _ _ _ (Za _ _ _ _ _ _ _ (Za _ _ _ _ _ _ _ h.z7 (.inr (by decide))) (.inr (by decide))) (.inr (by decide))) (.inr (by decide))) (.inr (by decide))) (.inr (by decide))) (.inr (by decide)))];rfl))
theorem ZP {w:World} {b p o:Nat} {W:Nat→Value} {v:Value} (h:w.cell? ⟨p,o,none⟩=some v) (hne:p≠b∨o<1):(putE w b W).cell? ⟨p,o,none⟩=some v:=
 (Za _ _ _ _ _ _ _ (Za _ _ _ _ _ _ _ (Za _ _ _ _ _ _ _ (Za _ _ _ _ _ _ _ (Za _ _ _ _ _ _ _ (Za _ _ _ _ _ _ _ (Za _ _ _ _ _ _ _ (Za _ _ _ _ _ _ _ h (by omega)) (by omega)) (by omega)) (by omega)) (by omega)) (by omega)) (by omega)) (by omega))
theorem putE_frozen {w:World} {b:Nat} {W:Nat→Value} {a:Addr}:(putE w b W).frozen? a=w.frozen? a:=by
 simp only [putE,World.frozen?_setCell]
theorem Jc0 {w:World} {b:Nat} {W:Nat→Value} {n:Nat} (hb:n≤b):Below n w (putE w b W):=(((((((((Below.refl n w).setCell (p:=⟨b,1,none⟩) hb (W 0)).setCell (p:=⟨b,2,none⟩) hb (W 1)).setCell (p:=⟨b,3,none⟩) hb (W 2)).setCell (p:=⟨b,4,none⟩) hb (W 3)).setCell (p:=⟨b,5,none⟩) hb (W 4)).setCell (p:=⟨b,6,none⟩) hb (W 5)).setCell (p:=⟨b,7,none⟩) hb (W 6)).setCell (p:=⟨b,8,none⟩) hb (W 7))
theorem QcR (w:World) (b:Nat) (W:Nat→Value):KeepsOthers w (putE w b W):=((((((((KeepsOthers.setCell w ⟨b,1,none⟩ (W 0)).trans (KeepsOthers.setCell _ ⟨b,2,none⟩ (W 1))).trans (KeepsOthers.setCell _ ⟨b,3,none⟩ (W 2))).trans (KeepsOthers.setCell _ ⟨b,4,none⟩ (W 3))).trans (KeepsOthers.setCell _ ⟨b,5,none⟩ (W 4))).trans (KeepsOthers.setCell _ ⟨b,6,none⟩ (W 5))).trans (KeepsOthers.setCell _ ⟨b,7,none⟩ (W 6))).trans (KeepsOthers.setCell _ ⟨b,8,none⟩ (W 7)))
set_option maxRecDepth 100000 in
set_option maxHeartbeats 4000000 in
theorem Jgl (F:Fence) (n:Nat) (hF:F.fn 223∧F.fn 280∧F.fn 131∧F.fn 211) (hro:F.round=none) (hn:3≤n) (db dof lb lo m c:Nat) (x r:Int) (W:Nat→Value) (w:World) (hne:lb≠db)
  (h0:w.cell? ⟨db,dof,none⟩=some (.slice (some ⟨lb,lo,none⟩) m c)) (hx0:0≤x) (hxm:x<m) (hW: ∀i,i<8→w.cell? ⟨lb,lo+x.toNat*8+i,none⟩=some (W i)) (hc8: ∀i,i<8→isCell (W i)=true) (hr:w.cell? ⟨db,dof+2,none⟩=some (.int .i64 r)) (hz:w.frozen? ⟨db,dof+2,none⟩=false):
  CallsIn F n Tryz.prog 223 #[.pointer (some ⟨db,dof,none⟩),.int .i64 x] w fun e w'=>e= .returned (.tuple #[Jd7 W,.int .i64 0])∧ ∃w1,Below w.heap.size w w1∧Below w.heap.size (w1.setCell ⟨db,dof+2,none⟩ (.int .i64 (wrap64 (r+1)))) w':=by
 have h1:1≤n:=by omega
 have e0:w.cell? ⟨lb,lo+x.toNat*8,none⟩=some (W 0):=by simpa using hW 0 (by decide)
 have e1:w.cell? ⟨lb,lo+x.toNat*8+1,none⟩=some (W 1):=by simpa using hW 1 (by decide)
 have e2:w.cell? ⟨lb,lo+x.toNat*8+2,none⟩=some (W 2):=by simpa using hW 2 (by decide)
 have e3:w.cell? ⟨lb,lo+x.toNat*8+3,none⟩=some (W 3):=by simpa using hW 3 (by decide)
 have e4:w.cell? ⟨lb,lo+x.toNat*8+4,none⟩=some (W 4):=by simpa using hW 4 (by decide)
 have e5:w.cell? ⟨lb,lo+x.toNat*8+5,none⟩=some (W 5):=by simpa using hW 5 (by decide)
 have e6:w.cell? ⟨lb,lo+x.toNat*8+6,none⟩=some (W 6):=by simpa using hW 6 (by decide)
 have e7:w.cell? ⟨lb,lo+x.toNat*8+7,none⟩=some (W 7):=by simpa using hW 7 (by decide)
 obtain ⟨k,rfl⟩: ∃k:Nat,x=k:=⟨x.toNat,by omega⟩
 simp only [Int.toNat_natCast] at*
 have hxm':k<m:=by omega
 have hd:Hid (DevW w db dof lb lo m c k r W):=⟨h0,e0,e1,e2,e3,e4,e5,e6,e7⟩
 have hB:Hid (db<w.heap.size):=by
  obtain ⟨o,ho,_⟩:=cells_of_cell h0
  exact (Array.getElem?_eq_some_iff.1 ho).1
 have hr':Hid (w.cell? ⟨db,dof+2,none⟩=some (.int .i64 r)∧w.frozen? ⟨db,dof+2,none⟩=false):=⟨hr,hz⟩
 clear e0 e1 e2 e3 e4 e5 e6 e7
 refine callsIn_of_wp Tryz.func223 rfl hF.1 ?_ hro
 simp only [Tryz.ntmps223,List.size_toArray,List.length_cons,List.length_nil,Nat.reduceAdd,Nat.reduceSub,Array.replicate_succ,Array.replicate_zero,List.push_toArray,List.append_toArray,List.nil_append,List.cons_append]
 gi_wp2_with (first
  |(gi_at_call 280
    refine (JfW F (n-1) hF.2.1 hro db dof m c _ _ _ (Qi h0) hx0 hxm).mono ?_
    rintro e w' ⟨rfl,rfl⟩
    have hn1:Hid (NewL (w.alloc (.cells #[.int .u64 0,.int .u64 0,.int .u64 0,.int .u64 0,.int .u64 0,.int .u64 0,.int .u64 0,.int .u64 0] 43)) w.heap.size):=NewL.new w 43
    have hq2:(w.alloc (.cells #[.int .u64 0,.int .u64 0,.int .u64 0,.int .u64 0,.int .u64 0,.int .u64 0,.int .u64 0,.int .u64 0] 43)).cell? ⟨db,dof+2,none⟩=some (.int .i64 r):=Qi hr
    have hqz:(w.alloc (.cells #[.int .u64 0,.int .u64 0,.int .u64 0,.int .u64 0,.int .u64 0,.int .u64 0,.int .u64 0,.int .u64 0] 43)).frozen? ⟨db,dof+2,none⟩=false:=(ZH hr).trans hz
    have hd1:Hid (DevW (w.alloc (.cells #[.int .u64 0,.int .u64 0,.int .u64 0,.int .u64 0,.int .u64 0,.int .u64 0,.int .u64 0,.int .u64 0] 43)) db dof lb lo m c k r W):=hd.out.alloc
    have hsz:Hid (Below w.heap.size w (w.alloc (.cells #[.int .u64 0,.int .u64 0,.int .u64 0,.int .u64 0,.int .u64 0,.int .u64 0,.int .u64 0,.int .u64 0] 43))):=(Below.refl _ w).alloc (Nat.le_refl _) _
    obtain ⟨w1,hw1⟩: ∃w1,w.alloc (.cells #[.int .u64 0,.int .u64 0,.int .u64 0,.int .u64 0,.int .u64 0,.int .u64 0,.int .u64 0,.int .u64 0] 43)=w1:=⟨_,rfl⟩
    rw [hw1] at hn1 hq2 hqz hd1 hsz ⊢
    clear hw1)
  |(gi_at_call 131
    refine (Jfx F (n-1) hF.2.2.1 hF.2.2.2 hro db (dof+2) r _ hq2 hqz).mono ?_
    rintro e w' ⟨rfl,rfl⟩
    have hn2:=hn1.out.set (p:=db) (o:=dof+2) (v:= .int .i64 (wrap64 (r+1))) (Nat.ne_of_gt hB.out)
    have hd2:=hd1.out.set (v:= .int .i64 (wrap64 (r+1))) hne
    obtain ⟨w2,hw2⟩: ∃w2,w1.setCell ⟨db,dof+2,none⟩ (.int .i64 (wrap64 (r+1)))=w2:=⟨_,rfl⟩
    rw [hw2] at hn2 hd2 ⊢
    have hw2':Hid (w1.setCell ⟨db,dof+2,none⟩ (.int .i64 (wrap64 (r+1)))=w2):=hw2
    clear hw2
    obtain ⟨p0,p0_,p1_,p2_,p3_,p4_,p5_,p6_,p7_⟩:=hd2
    have hn3:Hid (NewL w2 w.heap.size):=hn2
    clear hn2)
  |(rw [QfR hn3.out hc8]
    have hc3:=XcC (W:=W) hn3.out
    have y0:=hc3 0 (by decide)
    have y1:=hc3 1 (by decide)
    have y2:=hc3 2 (by decide)
    have y3:=hc3 3 (by decide)
    have y4:=hc3 4 (by decide)
    have y5:=hc3 5 (by decide)
    have y6:=hc3 6 (by decide)
    have y7:=hc3 7 (by decide)
    have hb3:Hid (Below w.heap.size w2 (QcM w2 w.heap.size W)):=Zb2 (Nat.le_refl _)
    obtain ⟨w3,hw3⟩: ∃w3,QcM w2 w.heap.size W=w3:=⟨_,rfl⟩
    rw [hw3] at y0 y1 y2 y3 y4 y5 y6 y7 hb3 ⊢
    clear hw3 hc3))
 refine bodyPost_ret (v:= .tuple #[Jd7 W,.int .i64 0]) (by simp [results,Tryz.f223,go_sem,Jd7,y0,y1,y2,y3,y4,y5,y6,y7]) rfl ⟨rfl,w1,hsz.out,?_⟩
 rw [hw2'.out];exact hb3.out
end Go.Proofs.YtmchcjaomcdbmaaGreat.Gen
namespace Go.Proofs.YtmchcjaomcdbmaaGreat.Gen
open Go Go.Proofs.YtmchcjaomcdbmaaGreat.Abs Go.RowKit Go.Shelf
attribute [local go_sem] Oper.semAt_some
theorem XeT {W W':World} {row:Option Nat} {b:Nat} (h:NewL W b) (hg:W.grownBy W' row) (hr: ∀r,row=some r→ ∃o:Obj,W.heap[r]? =some o∧o.isCells=false):NewL W' b:=
 ⟨cell_kept h.z0 hg hr,cell_kept h.z1 hg hr,cell_kept h.z2 hg hr,cell_kept h.z3 hg hr,cell_kept h.z4 hg hr,cell_kept h.z5 hg hr,cell_kept h.z6 hg hr,cell_kept h.z7 hg hr,(frozen_kept h.z0 hg hr).trans h.f0,(frozen_kept h.z1 hg hr).trans h.f1,(frozen_kept h.z2 hg hr).trans h.f2,(frozen_kept h.z3 hg hr).trans h.f3,(frozen_kept h.z4 hg hr).trans h.f4,(frozen_kept h.z5 hg hr).trans h.f5,(frozen_kept h.z6 hg hr).trans h.f6,(frozen_kept h.z7 hg hr).trans h.f7⟩
theorem Zcp (w:World) (cs:Array Value) (t:TypeId) (i:Nat):(w.alloc (.cells cs t)).cell? ⟨w.heap.size,i,none⟩=cs[i]? :=by
 unfold World.cell?;simp only [World.alloc_heap_new];rfl
theorem Jen (w:World) (cs:Array Value) (t:TypeId) (i:Nat):(w.alloc (.cells cs t)).frozen? ⟨w.heap.size,i,none⟩=false:=by
 unfold World.frozen?;simp only [World.alloc_heap_new];simp
theorem NewL.alloc {w:World} {b:Nat} {o:Obj} (h:NewL w b):NewL (w.alloc o) b:=
 ⟨Qi h.z0,Qi h.z1,Qi h.z2,Qi h.z3,Qi h.z4,Qi h.z5,Qi h.z6,Qi h.z7,(ZH h.z0).trans h.f0,(ZH h.z1).trans h.f1,(ZH h.z2).trans h.f2,(ZH h.z3).trans h.f3,(ZH h.z4).trans h.f4,(ZH h.z5).trans h.f5,(ZH h.z6).trans h.f6,(ZH h.z7).trans h.f7⟩
structure RdI (s:Nat) (x:Int) (W:World):Prop where
 c:W.cell? ⟨s,0,none⟩=some (.int .i64 x)
 l:NewL W (s+1)
 e:W.cell? ⟨s+1+1,0,none⟩=some (.int .i64 0)
 ef:W.frozen? ⟨s+1+1,0,none⟩=false
theorem RdI.kept {s:Nat} {x:Int} {W W':World} {row:Option Nat} (h:RdI s x W) (hg:W.grownBy W' row) (hr: ∀r,row=some r→ ∃o:Obj,W.heap[r]? =some o∧o.isCells=false):RdI s x W':=
 ⟨cell_kept h.c hg hr,XeT h.l hg hr,cell_kept h.e hg hr,(frozen_kept h.e hg hr).trans h.ef⟩
theorem RdI.alloc {s:Nat} {x:Int} {W:World} {o:Obj} (h:RdI s x W):RdI s x (W.alloc o):=h.kept (World.grownBy_alloc W o none) (fun r e=>by cases e)
theorem RdI.putE {s b:Nat} {x:Int} {W:World} {e:Nat→Value} (h:RdI s x W) (hb:s+1+1<b):RdI s x (putE W b e):=
 ⟨ZP h.c (.inl (by omega)),⟨ZP h.l.z0 (.inl (by omega)),ZP h.l.z1 (.inl (by omega)),ZP h.l.z2 (.inl (by omega)),ZP h.l.z3 (.inl (by omega)),ZP h.l.z4 (.inl (by omega)),ZP h.l.z5 (.inl (by omega)),ZP h.l.z6 (.inl (by omega)),ZP h.l.z7 (.inl (by omega)),putE_frozen.trans h.l.f0,putE_frozen.trans h.l.f1,putE_frozen.trans h.l.f2,putE_frozen.trans h.l.f3,putE_frozen.trans h.l.f4,putE_frozen.trans h.l.f5,putE_frozen.trans h.l.f6,putE_frozen.trans h.l.f7⟩,ZP h.e (.inl (by omega)),putE_frozen.trans h.ef⟩
structure RdX (s:Nat) (x:Int) (L:Nat→Int) (E:Nat→Nat→Value) (c:Code) (pre:List Nat) (W:World):Prop where
 c:c= .ret
 p: ∃ini k,pre=ini++[k]∧(∀j∈ini,L j≠x)∧L k=x∧(∀i,i<8→W.cell? ⟨s+1,i,none⟩=some (E k i))
 e:W.cell? ⟨s+1+1,0,none⟩=some (.int .i64 0)
theorem RdX.kept {s:Nat} {x:Int} {L:Nat→Int} {E:Nat→Nat→Value} {c:Code} {pre:List Nat} {W W':World} {row:Option Nat} (h:RdX s x L E c pre W) (hg:W.grownBy W' row) (hr: ∀r,row=some r→ ∃o:Obj,W.heap[r]? =some o∧o.isCells=false):RdX s x L E c pre W':=by
 obtain ⟨h1,⟨ini,k,h2,h3,h4,h5⟩,h6⟩:=h
 exact ⟨h1,⟨ini,k,h2,h3,h4,fun i hi=>cell_kept (h5 i hi) hg hr⟩,cell_kept h6 hg hr⟩
structure BoxE (W:World) (B:Nat) (v:Int) (e:Nat→Value):Prop where
 c0:W.cell? ⟨B,0,none⟩=some (.int .i64 v)
 c1:W.cell? ⟨B,1,none⟩=some (e 0)
 c2:W.cell? ⟨B,2,none⟩=some (e 1)
 c3:W.cell? ⟨B,3,none⟩=some (e 2)
 c4:W.cell? ⟨B,4,none⟩=some (e 3)
 c5:W.cell? ⟨B,5,none⟩=some (e 4)
 c6:W.cell? ⟨B,6,none⟩=some (e 5)
 c7:W.cell? ⟨B,7,none⟩=some (e 6)
 c8:W.cell? ⟨B,8,none⟩=some (e 7)
theorem BoxE.kept {W W':World} {row:Option Nat} {B:Nat} {v:Int} {e:Nat→Value} (h:BoxE W B v e) (hg:W.grownBy W' row) (hr: ∀r,row=some r→ ∃o:Obj,W.heap[r]? =some o∧o.isCells=false):BoxE W' B v e:=
 ⟨cell_kept h.c0 hg hr,cell_kept h.c1 hg hr,cell_kept h.c2 hg hr,cell_kept h.c3 hg hr,cell_kept h.c4 hg hr,cell_kept h.c5 hg hr,cell_kept h.c6 hg hr,cell_kept h.c7 hg hr,cell_kept h.c8 hg hr⟩
set_option maxRecDepth 100000 in
set_option maxHeartbeats 400000 in
theorem Qgd (F:Fence) (n:Nat) (hF:F.fn 194∧F.fn 272∧F.fn 299∧F.fn 223) (hDv:F.fn 223∧F.fn 280∧F.fn 131∧F.fn 211) (hro:F.round=none) (hn:7≤n) (b off db dof sb so len cap:Nat) (a:Option Addr) (x:Int) (L:Nat→Int) (E:Nat→Nat→Value) (w:World) (R:Ending→World→Prop)
  (hq:w.cell? ⟨b,off,none⟩=some (.pointer (some ⟨db,dof,none⟩))) (hsl:w.cell? ⟨b,off+2,none⟩=some (.slice a len cap)) (ha:0<len→a=some ⟨sb,so,none⟩) (hlen:len<1099511627776)
  (hL: ∀j,j<len→w.cell? ⟨sb,so+j*9,none⟩=some (.int .i64 (L j))) (hE: ∀j i,j<len→i<8→w.cell? ⟨sb,so+j*9+1+i,none⟩=some (E j i)) (hEu: ∀j i,isU64 (E j i)=true)
  (hfound: ∀k,k<len→L k=x→(∀j,k<j→j<len→L j≠x)→ ∀w1,Below w.heap.size w w1→R (.returned (.tuple #[Jd7 (E k),.int .i64 0])) w1)
  (hnone:(∀j,j<len→L j≠x)→ ∃(lb lo m c:Nat) (r:Int) (W:Nat→Value),lb≠db∧w.cell? ⟨db,dof,none⟩=some (.slice (some ⟨lb,lo,none⟩) m c)∧0≤x∧x<m∧m<1099511627776∧
   (∀i,i<8→w.cell? ⟨lb,lo+x.toNat*8+i,none⟩=some (W i))∧(∀i,isU64 (W i)=true)∧w.cell? ⟨db,dof+2,none⟩=some (.int .i64 r)∧w.frozen? ⟨db,dof+2,none⟩=false∧
   ∀w1 w2,Below w.heap.size w w1→Below w.heap.size (w1.setCell ⟨db,dof+2,none⟩ (.int .i64 (IntKind.wrap .i64 (r+1)))) w2→R (.returned (.tuple #[Jd7 W,.int .i64 0])) w2):
  CallsIn F n Tryz.prog 194 #[.pointer (some ⟨b,off,none⟩),.int .i64 x] w R:=by
 have hEc: ∀j i,isCell (E j i)=true:=fun j i=>Zen (hEu j i)
 clear hEu
 have h1:1≤n:=by omega
 have hq3:(((w.alloc (.cells #[.int .i64 x] 3)).alloc (.cells #[.int .u64 0,.int .u64 0,.int .u64 0,.int .u64 0,.int .u64 0,.int .u64 0,.int .u64 0,.int .u64 0] 43)).alloc (.cells #[.int .i64 0] 28)).cell? ⟨b,off,none⟩=some (.pointer (some ⟨db,dof,none⟩)):=Qi (Qi (Qi hq))
 have hsl3:(((w.alloc (.cells #[.int .i64 x] 3)).alloc (.cells #[.int .u64 0,.int .u64 0,.int .u64 0,.int .u64 0,.int .u64 0,.int .u64 0,.int .u64 0,.int .u64 0] 43)).alloc (.cells #[.int .i64 0] 28)).cell? ⟨b,off+2,none⟩=some (.slice a len cap):=Qi (Qi (Qi hsl))
 have hI3:Hid (RdI w.heap.size x ((((w.alloc (.cells #[.int .i64 x] 3)).alloc (.cells #[.int .u64 0,.int .u64 0,.int .u64 0,.int .u64 0,.int .u64 0,.int .u64 0,.int .u64 0,.int .u64 0] 43)).alloc (.cells #[.int .i64 0] 28)).alloc (.cells #[.slice a len cap] 226))):=by
  have hl:=NewL.new (w.alloc (.cells #[.int .i64 x] 3)) 43
  rw [World.size_alloc] at hl
  have he:=Zcp ((w.alloc (.cells #[.int .i64 x] 3)).alloc (.cells #[.int .u64 0,.int .u64 0,.int .u64 0,.int .u64 0,.int .u64 0,.int .u64 0,.int .u64 0,.int .u64 0] 43)) #[.int .i64 0] 28 0
  have hf:=Jen ((w.alloc (.cells #[.int .i64 x] 3)).alloc (.cells #[.int .u64 0,.int .u64 0,.int .u64 0,.int .u64 0,.int .u64 0,.int .u64 0,.int .u64 0,.int .u64 0] 43)) #[.int .i64 0] 28 0
  rw [World.size_alloc,World.size_alloc] at he hf
  exact ⟨Qi (Qi (Qi (Zcp w _ _ 0))),hl.alloc.alloc,Qi he,(ZH he).trans hf⟩
 have hBs3:Hid (((((w.alloc (.cells #[.int .i64 x] 3)).alloc (.cells #[.int .u64 0,.int .u64 0,.int .u64 0,.int .u64 0,.int .u64 0,.int .u64 0,.int .u64 0,.int .u64 0] 43)).alloc (.cells #[.int .i64 0] 28)).alloc (.cells #[.slice a len cap] 226)).cell? ⟨w.heap.size+1+1+1,0,none⟩=some (.slice a len cap)):=by
  have h:=Zcp (((w.alloc (.cells #[.int .i64 x] 3)).alloc (.cells #[.int .u64 0,.int .u64 0,.int .u64 0,.int .u64 0,.int .u64 0,.int .u64 0,.int .u64 0,.int .u64 0] 43)).alloc (.cells #[.int .i64 0] 28)) #[.slice a len cap] 226 0
  rw [World.size_alloc,World.size_alloc,World.size_alloc] at h
  exact h
 have hB3:Hid (Below w.heap.size w ((((w.alloc (.cells #[.int .i64 x] 3)).alloc (.cells #[.int .u64 0,.int .u64 0,.int .u64 0,.int .u64 0,.int .u64 0,.int .u64 0,.int .u64 0,.int .u64 0] 43)).alloc (.cells #[.int .i64 0] 28)).alloc (.cells #[.slice a len cap] 226))):=((((Below.refl _ w).alloc (Nat.le_refl _) _).alloc (by simp) _).alloc (by simp;omega) _).alloc (by simp;omega) _
 have hs3:Hid (((((w.alloc (.cells #[.int .i64 x] 3)).alloc (.cells #[.int .u64 0,.int .u64 0,.int .u64 0,.int .u64 0,.int .u64 0,.int .u64 0,.int .u64 0,.int .u64 0] 43)).alloc (.cells #[.int .i64 0] 28)).alloc (.cells #[.slice a len cap] 226)).heap.size=w.heap.size+4):=by show _=_;simp
 refine callsIn_of_wp_marks Tryz.func194 rfl hF.1 ?_ hro
 simp only [Tryz.ntmps194,List.size_toArray,List.length_cons,List.length_nil,Nat.reduceAdd,Nat.reduceSub,Array.replicate_succ,Array.replicate_zero,List.push_toArray,List.append_toArray,List.nil_append,List.cons_append]
 gi_wp2_with (gi_at_call 272;refine (ZfW F (n-1) hF.2.1 hro _ _ _ _).mono ?_;rintro e w' ⟨rfl,rfl⟩)
 obtain ⟨w3,hw3⟩: ∃w3,(((w.alloc (.cells #[.int .i64 x] 3)).alloc (.cells #[.int .u64 0,.int .u64 0,.int .u64 0,.int .u64 0,.int .u64 0,.int .u64 0,.int .u64 0,.int .u64 0] 43)).alloc (.cells #[.int .i64 0] 28)).alloc (.cells #[.slice a len cap] 226)=w3:=⟨_,rfl⟩
 rw [hw3] at hI3 hBs3 hB3 hs3 ⊢
 clear hw3 hq3 hsl3
 have hlt3: ∀j,j<len→sb<w.heap.size:=fun j hj=>by
  obtain ⟨o,ho,_⟩:=cells_of_cell (hL j hj)
  exact (Array.getElem?_eq_some_iff.1 ho).1
 have hb3:b<w.heap.size:=by
  obtain ⟨o,ho,_⟩:=cells_of_cell hq
  exact (Array.getElem?_eq_some_iff.1 ho).1
 refine wpIn_rangeFunc_ownH hro h1 (gf:=299) (lb:= #[.pointer (some ⟨w.heap.size+1+1+1,0,none⟩)]) rfl hF.2.2.1 (enters_of Tryz.func299 (by kernel_rfl) rfl)
  (Xeq F (n-1) hF.2.2.1 hro (by omega) (w.heap.size+1+1+1) w3.heap.size sb so len cap a L E hlen ha (fun h=>by have:=hlt3 0 h;have:=hs3.out;omega) w3 (by have:=hs3.out;omega) (by have:=hs3.out;omega) (Nat.le_refl _) hBs3.out
   (fun j hj=>(hB3.out.cell (p:=⟨sb,so+j*9,none⟩) (hlt3 j hj)).trans (hL j hj)) (fun j i hj hi=>(hB3.out.cell (p:=⟨sb,so+j*9+1+i,none⟩) (hlt3 j hj)).trans (hE j i hj hi)))
  belowK_t (belowK_b (Nat.le_refl _)) (Below.refl _ _) (fun _=>rfl)
  (fun pre W=>(RdI w.heap.size x W∧(∀j∈pre,L j≠x)∧w3.heap.size≤W.heap.size)∧Below w.heap.size w W)
  (fun c pre W=>RdX w.heap.size x L E c pre W∧Below w.heap.size w W)
  (OwnFrom.and (Own.from (fun s A B row hs hg hr=>⟨hs.1.kept hg hr,hs.2.1,Nat.le_trans hs.2.2 hg.size⟩) _) (ownFrom_below (Nat.le_refl _) (by have:=hs3.out;omega)))
  (fun c=>OwnFrom.and (Own.from (fun s A B row hs hg hr=>hs.kept hg hr) _) (ownFrom_below (Nat.le_refl _) (by have:=hs3.out;omega)))
  ⟨⟨hI3.out,(fun j hj=>by cases hj),Nat.le_refl _⟩,hB3.out⟩
  (fun k a' W=> ∃Bx,w3.heap.size≤Bx∧BoxE W Bx (L k) (E k)∧a'={ tmps:= #[.pointer (some ⟨b,off,none⟩),.int .i64 x,undef,.pointer (some ⟨w.heap.size,0,none⟩),.pointer (some ⟨w.heap.size+1,0,none⟩),.pointer (some ⟨w.heap.size+1+1,0,none⟩),undef,.pointer (some ⟨Bx,0,none⟩),
   .pointer (some ⟨b,off,none⟩),.bool false,undef,.pointer (some ⟨b,off,none⟩),.pointer (some ⟨b,off,none⟩),.pointer (some ⟨b,off+2,none⟩),.slice a len cap,.func (.func 299) #[] #[.pointer (some ⟨w.heap.size+1+1+1,0,none⟩)],.int .i64 (k:Nat),Je7 L E k,
   undef,undef,undef,undef,undef,undef,undef,undef,undef,undef,undef,undef,undef,undef],defers:=[] })
  (fun k a' _ X Y row hs hg hr=>by obtain ⟨Bx,h1,h2,h3⟩:=hs;exact ⟨Bx,h1,h2.kept hg (fun r e=>(hr r e).2),h3⟩)
  ?assign ?body ?done ?stop
 case assign=>
  rintro l pre k W K ⟨⟨hI1,hp1,hz1⟩,hB1⟩ hK
  simp only [Je7] at hK ⊢
  have hn:=NewE.new W (L k) 242
  have hc0:=Zcp W #[.int .i64 (L k),.int .u64 0,.int .u64 0,.int .u64 0,.int .u64 0,.int .u64 0,.int .u64 0,.int .u64 0,.int .u64 0] 242 0
  gi_wp2_with (rw [Zgt hn (fun i _=>hEc k i)])
  refine hK _ _ (((KeepsOthers.alloc _ _).trans (QcR _ _ _)).from _) (((Below.refl _ W).alloc hz1 _).trans (Jc0 hz1)) ⟨⟨?_,hp1,Nat.le_trans hz1 ?_⟩,(hB1.alloc hB1.size _).trans (Jc0 hB1.size)⟩ ⟨W.heap.size,hz1,?_,rfl⟩
  ·exact hI1.alloc.putE (by have:=hs3.out;omega)
  ·exact Nat.le_trans (by simp) (QcR _ _ _).size
  ·exact ⟨ZP hc0 (.inr (by decide)),Zaw hn 0 (by decide),Zaw hn 1 (by decide),Zaw hn 2 (by decide),Zaw hn 3 (by decide),Zaw hn 4 (by decide),Zaw hn 5 (by decide),Zaw hn 6 (by decide),Zaw hn 7 (by decide)⟩
 case body=>
  rintro l pre k a' W hl ⟨r,hr⟩ ⟨⟨hI1,hp1,hz1⟩,hB1⟩ ⟨Bx,hBx,hX,rfl⟩ hlt
  have hcl:=hI1.c
  have hel:=hI1.e
  have hef:=hI1.ef
  have hne:Hid (w.heap.size+1≠Bx):=by have:=hs3.out;show _≠_;omega
  have hl8:Hid (NewL W (w.heap.size+1)):=hI1.l
  obtain ⟨x0,x1,x2,x3,x4,x5,x6,x7,x8⟩:=hX
  by_cases hLk:L k=x
  ·gi_wp2
   rw [QfR hl8.out (fun i _=>hEc k i)]
   have he4:(QcM W (w.heap.size+1) (E k)).cell? ⟨w.heap.size+1+1,0,none⟩=some (.int .i64 0):=Jc3 hel (by omega)
   have hf4:(QcM W (w.heap.size+1) (E k)).frozen? ⟨w.heap.size+1+1,0,none⟩=false:=put8_frozen.trans hef
   have hc4:Hid (∀i,i<8→(QcM W (w.heap.size+1) (E k)).cell? ⟨w.heap.size+1,i,none⟩=some (E k i)):=fun i hi=>by have h:=XcC (W:=E k) hl8.out i hi;simpa using h
   have hk4:Hid (KeepsOthers W (QcM W (w.heap.size+1) (E k))):=Zc3 _ _ _
   have hb4:Hid (Below w.heap.size w (QcM W (w.heap.size+1) (E k))):=hB1.trans (Zb2 (by omega))
   obtain ⟨w4,hw4⟩: ∃w4,QcM W (w.heap.size+1) (E k)=w4:=⟨_,rfl⟩
   rw [hw4] at he4 hf4 hc4 hk4 hb4 ⊢
   clear hw4
   gi_wp2
   exact ⟨(hk4.out.trans (KeepsOthers.setCell _ _ _)).from _,⟨rfl,⟨pre,k,rfl,hp1,hLk,fun i hi=>Za _ _ _ _ _ _ _ (hc4.out i hi) (.inl (by omega))⟩,World.cell?_setCell_same' _ _ _ (by rw [he4];rfl)⟩,hb4.out.setCell (p:=⟨w.heap.size+1+1,0,none⟩) (by show _≤_;simp;omega) _⟩
  ·gi_wp2
   exact ⟨KeepsFrom.refl _ _,Below.refl _ _,⟨hI1,fun j hj=>(List.mem_append.1 hj).elim (hp1 j) (fun e=>by simp at e;subst e;exact hLk),hz1⟩,hB1⟩
 case done=>
  rintro D ys W hD rfl ⟨⟨hI1,hp1,hz1⟩,hB1⟩ hK
  have hno: ∀j,j<len→L j≠x:=fun j hj=>hp1 j (by
   simp only [JaW,List.mem_map,List.mem_range]
   exact ⟨len-1-j,by omega,by omega⟩)
  obtain ⟨lb,lo,m,c,r,V,hne,g0,hx0,hxm,hmm,gV,hVc,gr,gf,hR⟩:=hnone hno
  obtain ⟨z,rfl⟩: ∃z:Nat→Int,V=fun i=> .int .u64 (z i):=by
   refine ⟨fun i=>match V i with| .int _ y=>y|_=>0,funext fun i=> ?_⟩
   obtain ⟨y,hy⟩:=JeO (hVc i)
   show _=Value.int .u64 (match V i with| .int _ y=>y|_=>0)
   rw [hy]
  clear hVc
  have hqW:W.cell? ⟨b,off,none⟩=some (.pointer (some ⟨db,dof,none⟩)):=(hB1.cell (p:=⟨b,off,none⟩) hb3).trans hq
  have hcl:=hI1.c
  have hgW:Hid (W.cell? ⟨db,dof,none⟩=some (.slice (some ⟨lb,lo,none⟩) m c)∧(∀i,i<8→W.cell? ⟨lb,lo+x.toNat*8+i,none⟩=some (.int .u64 (z i)))∧W.cell? ⟨db,dof+2,none⟩=some (.int .i64 r)∧W.frozen? ⟨db,dof+2,none⟩=false):=by
   have hlt: ∀p v,w.cell? p=some v→W.cell? p=some v:=fun p v h=>by
    obtain ⟨o,ho,_⟩:=cells_of_cell h
    exact (hB1.cell (p:=p) (Array.getElem?_eq_some_iff.1 ho).1).trans h
   refine ⟨hlt _ _ g0,fun i hi=>hlt _ _ (gV i hi),hlt _ _ gr,?_⟩
   obtain ⟨o,ho,_⟩:=cells_of_cell gr
   exact (hB1.frozen (p:=⟨db,dof+2,none⟩) (Array.getElem?_eq_some_iff.1 ho).1).trans gf
  have hdb3:db<w.heap.size:=by
   obtain ⟨o,ho,_⟩:=cells_of_cell g0
   exact (Array.getElem?_eq_some_iff.1 ho).1
  clear gV g0 gr gf
  have hI1':Hid (RdI w.heap.size x W):=hI1
  have hKd:Hid (W.heap[D]? =some (.deferred (some []))):=hK
  gi_wp2
  have hmx:Tryz.prog.follows .mixedOrders=true:=by kernel_rfl
  have hdev:Hid (CallsIn F (n-1) Tryz.prog 223 #[.pointer (some ⟨db,dof,none⟩),.int .i64 x] W.drew fun e w'=>e= .returned (.tuple #[Jd7 (fun i=> .int .u64 (z i)),.int .i64 0])∧ ∃w1,Below W.drew.heap.size W.drew w1∧Below W.drew.heap.size (w1.setCell ⟨db,dof+2,none⟩ (.int .i64 (wrap64 (r+1)))) w'):=
   Jgl F (n-1) hDv hro (by omega) db dof lb lo m c x r (fun i=> .int .u64 (z i)) W.drew hne ((World.cell?_drew _ _).trans hgW.out.1) hx0 hxm (fun i hi=>(World.cell?_drew _ _).trans (hgW.out.2.1 i hi)) (fun i _=>rfl) ((World.cell?_drew _ _).trans hgW.out.2.2.1) ((World.frozen?_drew _ _).trans hgW.out.2.2.2)
  have hdev':Hid (CallsIn F (n-1) Tryz.prog 223 #[.pointer (some ⟨db,dof,none⟩),.int .i64 x] W.drew fun e w'=>e= .returned (.tuple #[.agg #[.int .u64 (z 0),.int .u64 (z 1),.int .u64 (z 2),.int .u64 (z 3),.int .u64 (z 4),.int .u64 (z 5),.int .u64 (z 6),.int .u64 (z 7)],.int .i64 0])∧RdI w.heap.size x w'∧w'.heap[D]? =some (.deferred (some []))∧ ∃w1,Below w.heap.size w w1∧Below w.heap.size (w1.setCell ⟨db,dof+2,none⟩ (.int .i64 (wrap64 (r+1)))) w'):=by
   refine hdev.out.mono ?_
   rintro e w' ⟨rfl,w1,hw1,hw2⟩
   have hsz:W.drew.heap.size=W.heap.size:=rfl
   rw [hsz] at hw1 hw2
   have hws:=hs3.out
   have hDs:D<W.heap.size:=(Array.getElem?_eq_some_iff.1 hKd.out).1
   have hdb:db<w.heap.size:=hdb3
   refine ⟨rfl,?_,?_,w1,(hB1.trans ((Below.refl _ W).drew)).trans (hw1.mono (by omega)),hw2.mono (by omega)⟩
   ·have hc: ∀p v,W.cell? p=some v→p.block≠db→w'.cell? p=some v:=fun p v h hne=>by
     have hlt:p.block<W.heap.size:=by
      obtain ⟨o,ho,_⟩:=cells_of_cell h
      exact (Array.getElem?_eq_some_iff.1 ho).1
     refine (hw2.cell hlt).trans ?_
     rw [World.cell?_of_block (Below.heap_setCell w1 ⟨db,dof+2,none⟩ _ p.block hne)]
     exact (hw1.cell hlt).trans h
    have hf: ∀p v,W.cell? p=some v→p.block≠db→w'.frozen? p=W.frozen? p:=fun p v h hne=>by
     have hlt:p.block<W.heap.size:=by
      obtain ⟨o,ho,_⟩:=cells_of_cell h
      exact (Array.getElem?_eq_some_iff.1 ho).1
     refine (hw2.frozen hlt).trans ?_
     rw [World.frozen?_of_block (Below.heap_setCell w1 ⟨db,dof+2,none⟩ _ p.block hne)]
     exact hw1.frozen hlt
    have hI:=hI1'.out
    refine ⟨hc _ _ hI.c (by show w.heap.size≠db;omega),⟨hc _ _ hI.l.z0 (by show w.heap.size+1≠db;omega),hc _ _ hI.l.z1 (by show w.heap.size+1≠db;omega),hc _ _ hI.l.z2 (by show w.heap.size+1≠db;omega),hc _ _ hI.l.z3 (by show w.heap.size+1≠db;omega),hc _ _ hI.l.z4 (by show w.heap.size+1≠db;omega),hc _ _ hI.l.z5 (by show w.heap.size+1≠db;omega),hc _ _ hI.l.z6 (by show w.heap.size+1≠db;omega),hc _ _ hI.l.z7 (by show w.heap.size+1≠db;omega),(hf _ _ hI.l.z0 (by show w.heap.size+1≠db;omega)).trans hI.l.f0,(hf _ _ hI.l.z1 (by show w.heap.size+1≠db;omega)).trans hI.l.f1,(hf _ _ hI.l.z2 (by show w.heap.size+1≠db;omega)).trans hI.l.f2,(hf _ _ hI.l.z3 (by show w.heap.size+1≠db;omega)).trans hI.l.f3,(hf _ _ hI.l.z4 (by show w.heap.size+1≠db;omega)).trans hI.l.f4,(hf _ _ hI.l.z5 (by show w.heap.size+1≠db;omega)).trans hI.l.f5,(hf _ _ hI.l.z6 (by show w.heap.size+1≠db;omega)).trans hI.l.f6,(hf _ _ hI.l.z7 (by show w.heap.size+1≠db;omega)).trans hI.l.f7⟩,hc _ _ hI.e (by show w.heap.size+1+1≠db;omega),(hf _ _ hI.e (by show w.heap.size+1+1≠db;omega)).trans hI.ef⟩
   ·refine (hw2.block D hDs).trans ?_
    rw [Below.heap_setCell w1 ⟨db,dof+2,none⟩ _ D (by show D≠db;omega)]
    exact (hw1.block D hDs).trans hKd.out
  clear hdev
  gi_region_with_o (gi_at_call 223;refine hdev'.out.mono ?_;rintro e w' ⟨rfl,hI2,hK2,w1,hw1,hw2⟩;obtain ⟨q1,⟨z0,z1,z2,z3,z4,z5,z6,z7,f0,f1,f2,f3,f4,f5,f6,f7⟩,q2,q3⟩:=hI2)
  all_goals gi_wp2
  all_goals
   have hn:NewL w' (w.heap.size+1):=⟨z0,z1,z2,z3,z4,z5,z6,z7,f0,f1,f2,f3,f4,f5,f6,f7⟩
   have hc5:=XcC (W:=fun i=> .int .u64 (z i)) hn
   have hl5: ∀i,i<8→((QcM w' (w.heap.size+1) (fun i=> .int .u64 (z i))).setCell ⟨w.heap.size+1+1,0,none⟩ (.int .i64 0)).cell? ⟨w.heap.size+1,i,none⟩=some (.int .u64 (z i)):=fun i hi=>Za _ _ _ _ _ _ _ (by have h:=hc5 i hi;simpa using h) (.inl (by omega))
   have he5:((QcM w' (w.heap.size+1) (fun i=> .int .u64 (z i))).setCell ⟨w.heap.size+1+1,0,none⟩ (.int .i64 0)).cell? ⟨w.heap.size+1+1,0,none⟩=some (.int .i64 0):=World.cell?_setCell_same' _ _ _ (by rw [Jc3 q2 (by omega)];rfl)
   have hK5:((QcM w' (w.heap.size+1) (fun i=> .int .u64 (z i))).setCell ⟨w.heap.size+1+1,0,none⟩ (.int .i64 0)).heap[D]? =some (.deferred (some [])):=((Zc3 _ _ _).trans (KeepsOthers.setCell _ _ _)).same D _ hK2 rfl
   have hb5:Below w.heap.size (w1.setCell ⟨db,dof+2,none⟩ (.int .i64 (wrap64 (r+1)))) ((QcM w' (w.heap.size+1) (fun i=> .int .u64 (z i))).setCell ⟨w.heap.size+1+1,0,none⟩ (.int .i64 0)):=(hw2.trans (Zb2 (by omega))).setCell (p:=⟨w.heap.size+1+1,0,none⟩) (by show _≤_;simp;omega) _
   show bodyPostM _ _ _ _ R .ret _ ((QcM w' (w.heap.size+1) (fun i=> .int .u64 (z i))).setCell ⟨w.heap.size+1+1,0,none⟩ (.int .i64 0))
   obtain ⟨w5,hw5⟩: ∃w5,(QcM w' (w.heap.size+1) (fun i=> .int .u64 (z i))).setCell ⟨w.heap.size+1+1,0,none⟩ (.int .i64 0)=w5:=⟨_,rfl⟩
   rw [hw5] at hl5 he5 hK5 hb5 ⊢
   refine ⟨by simp,.inl ⟨_,_,rfl,run_takeDeferred hK5,?_⟩⟩
   have kept: ∀p v,w5.cell? p=some v→(w5.putObj D (.deferred none)).cell? p=some v:=fun p v h=>cell_kept h (grownBy_putObj' _ D (.deferred none)) (fun r e=>by cases e;exact ⟨_,hK5,rfl⟩)
   have c5:=kept _ _ he5
   have y0:=kept _ _ (hl5 0 (by decide))
   have y1:=kept _ _ (hl5 1 (by decide))
   have y2:=kept _ _ (hl5 2 (by decide))
   have y3:=kept _ _ (hl5 3 (by decide))
   have y4:=kept _ _ (hl5 4 (by decide))
   have y5:=kept _ _ (hl5 5 (by decide))
   have y6:=kept _ _ (hl5 6 (by decide))
   have y7:=kept _ _ (hl5 7 (by decide))
   refine ⟨.tuple #[Jd7 (fun i=> .int .u64 (z i)),.int .i64 0],?_,hR w1 _ hw1 (by rw [w64];exact hb5.trans (belowK_b (w:=w) (Nat.le_refl _) w5 D _ _ (by have:=hs3.out;omega) hK5 rfl rfl))⟩
   simp [results,Tryz.f194,go_sem,Jd7,y0,y1,y2,y3,y4,y5,y6,y7,c5]
 case stop=>
  rintro D c pre W hD ⟨k,hk,rfl⟩ ⟨⟨rfl,⟨ini,q,e1,e2,e3,e4⟩,e5⟩,hB1⟩ hK
  gi_wp2
  refine ⟨by simp,.inl ⟨_,_,rfl,run_takeDeferred hK,?_⟩⟩
  have kept: ∀p v,W.cell? p=some v→(W.putObj D (.deferred none)).cell? p=some v:=fun p v h=>cell_kept h (grownBy_putObj' _ D (.deferred none)) (fun r e=>by cases e;exact ⟨_,hK,rfl⟩)
  have c5:=kept _ _ e5
  have y0:=kept _ _ (e4 0 (by decide))
  have y1:=kept _ _ (e4 1 (by decide))
  have y2:=kept _ _ (e4 2 (by decide))
  have y3:=kept _ _ (e4 3 (by decide))
  have y4:=kept _ _ (e4 4 (by decide))
  have y5:=kept _ _ (e4 5 (by decide))
  have y6:=kept _ _ (e4 6 (by decide))
  have y7:=kept _ _ (e4 7 (by decide))
  obtain ⟨k',rfl⟩: ∃k',k=k'+1:=by
   cases k with
   | zero=>simp [JaW] at e1
   | succ k'=>exact ⟨k',rfl⟩
  rw [JbE] at e1
  obtain ⟨rfl,e6⟩:=List.append_inj' e1 rfl
  obtain rfl:len-1-k'=q:=by simpa using e6
  refine ⟨.tuple #[Jd7 (E (len-1-k')),.int .i64 0],?_,hfound _ (by omega) e3 (fun j h1 h2=>e2 j ?_) _ (hB1.trans (belowK_b (w:=w) (Nat.le_refl _) W D _ _ (by have:=hs3.out;omega) hK rfl rfl))⟩
  ·simp [results,Tryz.f194,go_sem,Jd7,y0,y1,y2,y3,y4,y5,y6,y7,c5]
  ·simp only [JaW,List.mem_map,List.mem_range]
   exact ⟨len-1-j,by omega,by omega⟩
theorem Xgb:JfO Tryz.prog 194:=by
 intro b off db dof sb so len cap a x L E w R hq hsl ha hlen hL hE hEu hfound hnone
 exact (callsIn_wide (n:=7)).1 (Qgd Fence.wide 7 ⟨trivial,trivial,trivial,trivial⟩ ⟨trivial,trivial,trivial,trivial⟩ rfl (Nat.le_refl _) b off db dof sb so len cap a x L E w R hq hsl ha hlen hL hE hEu hfound hnone)
end Go.Proofs.YtmchcjaomcdbmaaGreat.Gen
namespace Go.Proofs.YtmchcjaomcdbmaaGreat.Gen
open Go Go.Proofs.YtmchcjaomcdbmaaGreat.Abs Go.RowKit
variable {g:G} {n:Nat}
def TT0:XeL:=fun f=>
 if f=317 then some (.slow [306,342])
 else   if f=325 then some (.ld .u32)
 else   if f=211 then some (.add .i64)
 else   if f=370 then some (.tab XgB)
 else   if f=194 then some (.look Xev)
 else none
set_option maxRecDepth 1000000 in
set_option maxHeartbeats 4000000 in
theorem ZfQ:Zgp Tryz.prog TT0:=by
 intro f k h
 unfold TT0 at h
 split at h
 ·rename_i hf;subst hf;cases h
  refine ⟨⟨_,Tryz.func317,by kernel_rfl,by kernel_rfl⟩,?_⟩
  intro F hF
  simp only [List.mem_cons,List.not_mem_nil,or_false] at hF
  rcases hF with rfl|rfl
  ·exact ⟨⟨_,Tryz.func306,by kernel_rfl,by kernel_rfl⟩,Zfe⟩
  ·exact ⟨⟨_,Tryz.func342,by kernel_rfl,by kernel_rfl⟩,XeY⟩
 ·split at h
  ·rename_i hf;subst hf;cases h
   exact ⟨_,Tryz.func325,by kernel_rfl,by kernel_rfl,by kernel_rfl,by kernel_rfl⟩
  ·split at h
   ·rename_i hf;subst hf;cases h
    exact ⟨_,Tryz.func211,by kernel_rfl,by kernel_rfl,by kernel_rfl,by kernel_rfl⟩
   ·split at h
    ·rename_i hf;subst hf;cases h
     exact Jgc ⟨_,Tryz.func370,by kernel_rfl,by kernel_rfl,by kernel_rfl,by kernel_rfl⟩
    ·split at h
     ·rename_i hf;subst hf;cases h
      exact fun args g n K h=>QfH ⟨_,Tryz.func194,by kernel_rfl,by kernel_rfl⟩ Xgb h
     ·cases h
def XfO:Value:= .agg #[.int .i64 (-1),.int .i64 (-1),.int .i64 (-1),.int .i64 (-1),.int .i64 (-1),.int .i64 (-1),.int .i64 (-1),.int .i64 (-1),.int .i64 (-1),.int .i64 (-1),.int .i64 (-1),.int .i64 (-1),.int .i64 (-1),.int .i64 (-1),.int .i64 (-1),.int .i64 (-1),.int .i64 (-1),.int .i64 (-1),.int .i64 (-1),.int .i64 (-1),.int .i64 (-1),.int .i64 (-1),.int .i64 (-1),.int .i64 (-1),.int .i64 (-1),.int .i64 (-1),.int .i64 (-1),.int .i64 (-1),.int .i64 (-1),.int .i64 (-1),.int .i64 (-1),.int .i64 (-1),.int .i64 (-1),.int .i64 (-1),.int .i64 (-1),.int .i64 (-1),.int .i64 (-1),.int .i64 (-1),.int .i64 (-1),.int .i64 (-1),.int .i64 (-1),.int .i64 (-1),.int .i64 (-1),.int .i64 (-1),.int .i64 (-1),.int .i64 (-1),.int .i64 (-1),.int .i64 (-1),.int .i64 (-1),.int .i64 (-1),.int .i64 (-1),.int .i64 (-1),.int .i64 (-1),.int .i64 (-1),.int .i64 (-1),.int .i64 (-1),.int .i64 (-1),.int .i64 (-1),.int .i64 (-1),.int .i64 (-1),.int .i64 (-1),.int .i64 (-1),.int .i64 (-1),.int .i64 (-1),.int .i64 (-1),.int .i64 (-1),.int .i64 (-1),.int .i64 (-1),.int .i64 (-1),.int .i64 (-1),.int .i64 (-1),.int .i64 (-1),.int .i64 (-1),.int .i64 (-1),.int .i64 (-1),.int .i64 (-1),.int .i64 (-1),.int .i64 (-1),.int .i64 (-1),.int .i64 (-1),.int .i64 (-1),.int .i64 (-1),.int .i64 (-1),.int .i64 (-1),.int .i64 (1),.int .i64 (-1),.int .i64 (-1),.int .i64 (-1),.int .i64 (-1),.int .i64 (-1),.int .i64 (-1),.int .i64 (-1),.int .i64 (-1),.int .i64 (-1),.int .i64 (2),.int .i64 (-1),.int .i64 (-1),.int .i64 (-1),.int .i64 (-1),.int .i64 (-1),.int .i64 (-1),.int .i64 (-1),.int .i64 (-1),.int .i64 (-1),.int .i64 (-1),.int .i64 (2),.int .i64 (2),.int .i64 (-1),.int .i64 (-1),.int .i64 (-1),.int .i64 (-1),.int .i64 (-1),.int .i64 (-1),.int .i64 (-1),.int .i64 (-1),.int .i64 (-1),.int .i64 (-1),.int .i64 (0),.int .i64 (0),.int .i64 (0),.int .i64 (-1),.int .i64 (0),.int .i64 (0),.int .i64 (0),.int .i64 (-1),.int .i64 (-1),.int .i64 (5),.int .i64 (8),.int .i64 (-1),.int .i64 (8),.int .i64 (-1),.int .i64 (-1),.int .i64 (1),.int .i64 (1),.int .i64 (-1),.int .i64 (-1),.int .i64 (-1),.int .i64 (8),.int .i64 (-1),.int .i64 (8),.int .i64 (-2),.int .i64 (-2),.int .i64 (-2),.int .i64 (-2),.int .i64 (-2),.int .i64 (-2),.int .i64 (-2),.int .i64 (-2),.int .i64 (-2),.int .i64 (-2)]
set_option maxRecDepth 1000000 in
set_option maxHeartbeats 4000000 in
theorem QfJ:ZaN Tryz.prog (HT TT0) 1000 100 200 [] .nil 0 (fun v' _ _=>Xdj v' XfO)=true:=by kernel_rfl
def TT:XeL:=fun f=>if f=200 then some (.tab (XgD XfO)) else TT0 f
set_option maxRecDepth 1000000 in
set_option maxHeartbeats 4000000 in
theorem XgA:Zgp Tryz.prog TT:=by
 intro f k h
 unfold TT at h
 split at h
 ·rename_i hf;subst hf;cases h
  intro args v g n K hv hK
  obtain ⟨rfl,rfl⟩:=ZfD hv
  exact QfF (fun B=>Xcy (by kernel_rfl) B) ZfQ 1000 100 rfl rfl QfJ hK
 ·exact ZfQ f k h
abbrev AC:CT:=ACalls Tryz.prog (XP Tryz.prog TT)
theorem Jb:Xda (XP Tryz.prog TT):=Jf2 _
theorem Jf9 {f:FuncId} {args:List Value} {K:Cont} (v:Value) (fuel depth:Nat) (h1:plain 3 v=true) (h2:args.all (plain 3)=true) (h3:ZaN Tryz.prog (HT TT) fuel depth f args .nil 0 (fun v' _ _=>Xdj v' v)=true) (hK: ∀n',K v g n'):AC f args g n K:=
 fun C hC=>hC.2 _ _ _ _ _ (.inr ⟨v,fuel,depth,h1,h2,h3,hK⟩)
theorem Zdk {args:List Value} {K:Cont} (h:Jdc .i64 args g n K):AC 211 args g n K:=ACalls.foreign Jb (.inl h)
theorem Xe7 {args:List Value} {K:Cont} (h:Xcu Xev args g n K):AC 194 args g n K:=ACalls.foreign Jb (.inl h)
theorem Jh {b:Bool} {A B:Prop} (h:b=true) (k:A):Qa (.bool b) A B:=by subst h;exact k
theorem Zd {b:Bool} {A B:Prop} (h:b=false) (k:B):Qa (.bool b) A B:=by subst h;exact k
theorem take_add {α:Type} {xs:List α} {i:Nat} {x:α} (h:xs[i]? =some x):xs.take (i+1)=xs.take i++[x]:=by rw [List.take_add_one,h];rfl
theorem JbM {α:Type} {xs:List α} {i:Nat} {x:α} (h:xs[i]? =some x):xs.drop i=x::xs.drop (i+1):=by
 rw [List.drop_eq_getElem?_toList_append,h];rfl
def Qdl (o:Option Nat):Value:=match o with|some i=> .int .i64 (i:Nat)|none=> .int .i64 (-1)
theorem Qcf {α:Type} {p:α→Bool} {xs:List α} {i:Nat} (h: ∀x∈xs.take i,p x=false):(xs.take i).filter (fun x=> !p x)=xs.take i:=by
 rw [List.filter_eq_self];intro x hx;simp [h x hx]
abbrev Ln:={ w:List Int // w.length=8 }
def Xl (l:Ln):List Value:=l.1.map (.int .u64 ·)
theorem Jd (l:Ln):(Xl l).length=8:=by simp [Xl,l.2]
theorem QG (l:Ln): ∀v∈Xl l,isCell v=true:=by simp [Xl,isCell]
def zeroL:Ln:=⟨[0,0,0,0,0,0,0,0],rfl⟩
def Ln.put (l:Ln) (w:Nat) (v:Int):Ln:=⟨l.1.set w v,by simp [l.2]⟩
theorem QbJ {k:IntKind}: ∀(xs ys:List Int),xs.length=ys.length→Xj (List.replicate xs.length .i) (xs.map (.int k ·)) (ys.map (.int k ·))=some (decide (xs=ys))
 | [],[],_=>rfl
 | [],_::_,h=>by simp at h
 | _::_,[],h=>by simp at h
 | x::xs,y::ys,h=>by
  have ih:=QbJ (k:=k) xs ys (by simpa using h)
  simp only [List.length_cons,List.replicate_succ,List.map_cons,Xj,QbM,if_true,ih,Option.some.injEq]
  rw [Bool.eq_iff_iff];simp
theorem eqL (a b:Ln) (K:Value→Prop) (h:K (.bool (decide (a=b)))):Xb (.agg [.i,.i,.i,.i,.i,.i,.i,.i]) .eql (.agg (Xl a).toArray) (.agg (Xl b).toArray) K:=by
 have e:=QbJ (k:= .u64) a.1 b.1 (by rw [a.2,b.2])
 rw [a.2] at e
 have e':Xj [.i,.i,.i,.i,.i,.i,.i,.i] (Xl a) (Xl b)=some (decide (a=b)):=by
  have:(decide (a=b))=decide (a.1=b.1):=by rw [Bool.eq_iff_iff];simp [Subtype.ext_iff]
  rw [this];exact e
 show (match Xj [.i,.i,.i,.i,.i,.i,.i,.i] (Xl a) (Xl b) with|some r=>Jdl .eql r K|none=>False)
 rw [e']
 exact h
theorem Xv {cs vs:List Value} (h:vs.length=cs.length):splice cs 0 vs=vs:=by simp [splice,h]
theorem Jdo {α:Type} {p:α→Bool} {xs:List α} {i:Nat} {x:α} (he:xs[i]? =some x) (hp:p x=true) (hb: ∀y∈xs.take i,p y=false):xs.findIdx? p=some i:=by
 have hlt:=Qd he
 rw [List.findIdx?_eq_some_iff_getElem]
 refine ⟨hlt,?_,fun j hj=> ?_⟩
 ·rw [List.getElem?_eq_getElem hlt] at he;cases he;exact hp
 ·have:=hb xs[j] (List.mem_of_getElem? (i:=j) (by rw [List.getElem?_take,if_pos hj,List.getElem?_eq_getElem]))
  simp [this]
theorem ldL {l:Nat} {x:Ln} {bk:BK} {K:List Value→Prop} (h:g l=some (.cells (Xl x) bk)) (k:K (Xl x)):Zn g l 0 8 K:=by
 refine Ju h (by rw [Jd];decide) ?_
 rw [List.drop_zero,List.take_of_length_le (by rw [Jd];exact Nat.le_refl _)];exact k
end Go.Proofs.YtmchcjaomcdbmaaGreat.Gen
namespace Go.Proofs.YtmchcjaomcdbmaaGreat.Gen
open Go Go.Proofs.YtmchcjaomcdbmaaGreat.Abs Go.RowKit
variable {g:G} {n:Nat}
structure St where
 state:Int
 line:Int
 data:Ln
 used:Int
 deriving DecidableEq
def encS (s:St):List Value:=[.int .i64 s.state,.int .i64 s.line]++Xl s.data++[.int .i64 s.used]
theorem Jg (s:St):(encS s).length=11:=by simp [encS,Jd]
theorem Jad (s:St): ∀v∈encS s,isCell v=true:=by
 intro v hv
 simp only [encS,List.mem_append,List.mem_cons,List.not_mem_nil,or_false] at hv
 rcases hv with ((rfl|rfl)|h)|rfl
 ·rfl
 ·rfl
 ·exact QG _ v h
 ·rfl
theorem ldS {l:Nat} {x:St} {bk:BK} {K:List Value→Prop} (h:g l=some (.cells (encS x) bk)) (k:K (encS x)):Zn g l 0 11 K:=by
 refine Ju h (by rw [Jg];decide) ?_
 rw [List.drop_zero,List.take_of_length_le (by rw [Jg];exact Nat.le_refl _)];exact k
def J4:St:=⟨0,0,zeroL,0⟩
theorem Zd5 (s:St):(encS s)[0]? =some (.int .i64 s.state):=rfl
theorem XeX (s:St):(encS s)[1]? =some (.int .i64 s.line):=rfl
theorem QfU (s:St):(encS s)[10]? =some (.int .i64 s.used):=by
 unfold encS
 rw [List.getElem?_append_right (by simp [Jd])]
 simp [Jd]
structure Arr where
 sets:Nat
 ways:Nat
 l:List St
 used:Int
 deriving DecidableEq
def Arr.ok (A:Arr):Prop:=(A.sets=1∨A.sets=2∨A.sets=4∨A.sets=8)∧1≤A.ways∧A.ways≤8∧A.l.length=A.sets*A.ways∧0≤A.used∧A.used<1000000
def Qgo (A:Arr) (ls:Nat):List Value:=[.int .i64 A.sets,.int .i64 A.ways,.slice (some ⟨ls,0,none⟩) (A.sets*A.ways) (A.sets*A.ways),.int .i64 A.used]
structure ArrH (g:G) (la ls:Nat) (A:Arr):Prop where
 obj:g la=some (.cells (Qgo A ls) .exact)
 row:Blk1 encS g ls A.l .exact
 ne:la≠ls
theorem ArrH.mono {g g':G} {la ls:Nat} {A:Arr} (h:ArrH g la ls A) (hs:Sub g g'):ArrH g' la ls A:=⟨hs.live h.obj,h.row.mono hs,h.ne⟩
theorem ZdC {sets line:Int} (hs:sets=1∨sets=2∨sets=4∨sets=8) (hl:0≤line) {K:Cont} (hK: ∀n',K (.int .i64 (line%sets)) g n'):AC QbD [.int .i64 sets,.int .i64 line] g n K:=by
 refine ACalls.fold Jb ?_
 rw [←ZdL]
 simp only [Zef,Jj,Qw]
 refine Zd (by simpa using hl) ?_
 have j1: ∀(t:Env) (n:Nat),t 8= .bool true→t 0= .int .i64 sets→t 1= .int .i64 line→Xas AC K t g n:=by
  intro t n t8 t0 t1
  simp only [Xas,t8,t0,t1,Xdf]
  refine ⟨by omega,Ja (Sub.refl _) ?_⟩
  rw [Int.tmod_eq_emod_of_nonneg hl]
  exact hK _
 rcases hs with rfl|rfl|rfl|rfl
 ·exact Jh rfl (j1 _ _ rfl rfl rfl)
 ·exact Zd rfl (Jh rfl (j1 _ _ rfl rfl rfl))
 ·exact Zd rfl (Zd rfl (Jh rfl (j1 _ _ rfl rfl rfl)))
 ·exact Zd rfl (Zd rfl (Zd rfl (j1 _ _ rfl rfl rfl)))
theorem QdX {l c z i j:Nat} {K:Value→Prop} (hc:c<LC) (hij:i<j) (hj:j≤c) (k:K (.slice (some ⟨l,i*z,none⟩) (j-i) (j-i))):
  Xu (.slice (some ⟨l,0,none⟩) c c) (some (.int .i64 (i:Nat))) (some (.int .i64 (j:Nat))) (some (.int .i64 (j:Nat))) z K:=by
 simp only [Xu,if_pos hc,XJ,Zba]
 refine ⟨by omega,by omega,by omega,by omega,by omega,by omega,?_⟩
 simp only [Int.toNat_natCast]
 rw [if_neg (by omega)]
 simp only [Option.map_some,Xb4,Nat.zero_add]
 exact k
def Arr.from (A:Arr) (line:Int):Nat:=(line%A.sets).toNat*A.ways
theorem Arr.from_le {A:Arr} (h:A.ok) {line:Int} (hl:0≤line):A.from line+A.ways≤A.sets*A.ways:=by
 obtain ⟨hs,hw,_⟩:=h
 have h1:(line%A.sets).toNat+1≤A.sets:=by
  have:line%(A.sets:Int)<A.sets:=Int.emod_lt_of_pos _ (by omega)
  have:0≤line%(A.sets:Int):=Int.emod_nonneg _ (by omega)
  omega
 have:=Nat.mul_le_mul_right A.ways h1
 rw [Nat.add_mul,Nat.one_mul] at this
 exact this
theorem Arr.small {A:Arr} (h:A.ok):A.sets*A.ways≤64:=by
 obtain ⟨hs,hw1,hw2,_⟩:=h
 have:=Nat.mul_le_mul (show A.sets≤8 by omega) hw2
 omega
def Xf4 (ls:Nat) (A:Arr) (line:Int):Value:= .slice (some ⟨ls,A.from line*11,none⟩) A.ways A.ways
theorem Zbp {A:Arr} {la ls:Nat} {line:Int} (hok:A.ok) (hh:ArrH g la ls A) (hl:0≤line) {K:Cont} (hK: ∀n',K (Xf4 ls A line) g n'):AC Jt [ptr la 0,.int .i64 line] g n K:=by
 refine ACalls.fold Jb ?_
 rw [←JbX]
 simp only [Jbk,Zf,Zc,Nat.zero_add]
 have hf:=Arr.from_le hok hl
 have hsm:=Arr.small hok
 refine Qb hh.obj rfl ?_
 refine Qb hh.obj rfl ?_
 refine ZdC (by have:=hok.1;omega) hl (fun n1=> ?_)
 refine ⟨rfl,?_⟩
 have hnn:0≤line%(A.sets:Int):=Int.emod_nonneg _ (by have:=hok.1;omega)
 have e1:(line%(A.sets:Int))*(A.ways:Int)=(A.from line:Int):=by unfold Arr.from;rw [Int.natCast_mul,Int.toNat_of_nonneg hnn]
 have hw2:=hok.2.2.1
 simp only [Zd4]
 rw [e1,Xn (by omega) (by omega)]
 refine Qb hh.obj rfl ?_
 refine Qb hh.obj rfl ?_
 simp only [Jo]
 rw [Xn (by omega) (by omega)]
 refine Qb hh.obj rfl ?_
 simp only [Jo]
 rw [Xn (by omega) (by omega),show (A.from line:Int)+(A.ways:Int)=((A.from line+A.ways:Nat):Int) by omega]
 have hw1:=hok.2.1
 refine QdX (by have:LC=4611686018427387904:=rfl;omega) (by omega) hf (Ja (Sub.refl _) ?_)
 rw [show A.from line+A.ways-A.from line=A.ways by omega]
 exact hK _
end Go.Proofs.YtmchcjaomcdbmaaGreat.Gen
namespace Go.Proofs.YtmchcjaomcdbmaaGreat.Gen
open Go Go.Proofs.YtmchcjaomcdbmaaGreat.Abs Go.RowKit
variable {g:G} {n:Nat}
theorem JS {v such:Value} (p:St→Bool) {xs:List St} (hv:Sl encS 11 g v xs)
  (hsuch: ∀(g':G) (n':Nat) (e:St) (K:Cont),Sub g g'→(∀n,K (.bool (p e)) g' n)→Zbl AC such [.agg (encS e).toArray] g' n' K)
  (hlen:xs.length<1000000) {K:Cont} (hK: ∀n',K (Qdl (xs.findIdx? p)) g n'):AC Xf [v,such] g n K:=by
 refine ACalls.fold Jb ?_
 rw [←XY]
 simp only [XE]
 refine hv.len ?_
 refine JY (fun m t g' n'=>g'=g∧ ∃i:Nat,m=xs.length-i∧i≤xs.length∧t 0=v∧t 1=such∧t 7= .int .i64 xs.length∧t 8= .int .i64 i∧(∀x∈xs.take i,p x=false)) ?_
  (m:=xs.length) ⟨rfl,0,by simp,by simp,rfl,rfl,rfl,rfl,by simp⟩
 rintro I m t g1 n1 hI ⟨rfl,i,hm,hi,h0,h1,h7,h8,hp⟩
 simp only [ZA,h0,h1,h7,h8,Jj,Jf,decide_eq_true_eq,decide_eq_false_iff_not]
 refine ⟨fun hlt=> ?_,fun hge=> ?_⟩
 ·have hlt:i<xs.length:=by omega
  have he:xs[i]? =some xs[i]:=List.getElem?_eq_getElem hlt
  have hei:xs[i]=xs[i]:=rfl
  generalize hx:xs[i]=e at he
  refine hv.idx Jg he (fun l o ha=> ?_)
  simp only [Zc]
  refine ha.ldN (Jg e).symm ?_
  refine hsuch _ _ _ _ (Sub.refl _) (fun n2=> ?_)
  simp only [Jf,Jo]
  refine ⟨fun hpe=>Ja (Sub.refl _) ?_,fun hpe=> ?_⟩
  ·have:xs.findIdx? p=some i:=by
    rw [List.findIdx?_eq_some_iff_getElem]
    refine ⟨hlt,by rw [hx];exact hpe,fun j hj=> ?_⟩
    have:=hp xs[j] (List.mem_of_getElem? (i:=j) (by rw [List.getElem?_take,if_pos hj,List.getElem?_eq_getElem]))
    simp [this]
   have:=hK n2
   rw [‹xs.findIdx? p=some i›] at this
   exact this
  ·rw [ZaZ (by omega)]
   refine hI (xs.length-(i+1)) _ _ _ (by omega) ⟨rfl,i+1,rfl,by omega,h0,h1,h7,rfl,?_⟩
   intro x hx'
   rw [take_add he] at hx'
   rcases List.mem_append.1 hx' with h|h
   ·exact hp x h
   ·simp at h;subst h;exact hpe
 ·have:i=xs.length:=by omega
  subst this
  rw [List.take_length] at hp
  have h:xs.findIdx? p=none:=by rw [List.findIdx?_eq_none_iff];exact hp
  have:=hK n1
  rw [h] at this
  exact Ja (Sub.refl _) this
theorem Xbk {g0:G} {v such:Value} (p:St→Bool) {xs:List St} (hv:OwnS encS 11 g0 g v xs) (hs0:Sub g0 g)
  (hsuch: ∀(g':G) (n':Nat) (e:St) (K:Cont),Sub g0 g'→(∀n,K (.bool (p e)) g' n)→Zbl AC such [.agg (encS e).toArray] g' n' K)
  (hlen:xs.length<1000000) {K:Cont} (hK: ∀v' g' n',Sub g0 g'→Sl encS 11 g' v' (xs.filter fun e=> !p e)→(xs≠[]→ ∀l,QaH v'=some l→g0 l=none)→K v' g' n'):AC Xo [v,such] g n K:=by
 refine ACalls.fold Jb ?_
 rw [←JW]
 simp only [QD]
 refine JS p hv.sl (fun g' n' e K hs=>hsuch g' n' e K (hs0.trans hs)) hlen (fun n1=> ?_)
 cases hidx:xs.findIdx? p with
 | none=>
  rw [List.findIdx?_eq_none_iff] at hidx
  simp only [Qdl,Qw]
  refine Jh rfl (Ja (Sub.refl _) (hK _ _ _ hs0 ?_ (fun hne l' hl'=> ?_)))
  rotate_left
  ·rcases hv with ⟨h,_⟩|⟨lc,c,bk,rfl,_,h0,_⟩
   ·exact absurd (List.eq_nil_of_length_eq_zero h) hne
   ·cases hl';exact h0
  have:xs.filter (fun e=> !p e)=xs:=by rw [List.filter_eq_self];intro x hx;simp [hidx x hx]
  rw [this];exact hv.sl
 | some i0=>
  rw [List.findIdx?_eq_some_iff_getElem] at hidx
  obtain ⟨hi0,hpi,hbefore⟩:=hidx
  rcases hv with ⟨h,_⟩|⟨l,c,bk,rfl,hg,h0,hl,hck⟩
  ·exact absurd hi0 (by omega)
  have hrw:bk.rw=true:=by rcases hck with ⟨_,rfl,_⟩|⟨_,rfl⟩<;>rfl
  simp only [Qdl,Qw,Jo]
  refine Zd (by simp) ?_
  rw [ZaZ (by omega)]
  have hi0e:xs[i0]? =some xs[i0]:=List.getElem?_eq_getElem hi0
  have hbf: ∀x∈xs.take i0,p x=false:=by
   intro x hx
   obtain ⟨j,hj⟩:=List.getElem?_of_mem hx
   rw [List.getElem?_take] at hj
   split at hj
   ·rename_i hji
    have:=hbefore j hji
    rw [List.getElem?_eq_getElem (by omega)] at hj
    cases hj
    simpa using this
   ·cases hj
  have hf0:(xs.take (i0+1)).filter (fun e=> !p e)=xs.take i0:=by rw [take_add hi0e,List.filter_append,Qcf hbf];simp [hpi]
  have hl0:(xs.take i0).length=i0:=by rw [List.length_take];omega
  refine JY (fun m t g' n'=>Sub g0 g'∧ ∃(j:Nat) (ys:List St),m=xs.length-j∧j≤xs.length∧t 0= .slice (some ⟨l,0,none⟩) xs.length c∧t 1=such∧
    t 5= .int .i64 (((xs.take j).filter fun e=> !p e).length:Nat)∧t 6= .int .i64 j∧ys.length=xs.length∧Blk1 encS g' l ys bk∧((xs.take j).filter fun e=> !p e).length<j∧
    ys.take ((xs.take j).filter fun e=> !p e).length=(xs.take j).filter (fun e=> !p e)∧ys.drop j=xs.drop j) ?_
   (m:=xs.length-(i0+1)) ⟨hs0,i0+1,xs,rfl,by omega,rfl,rfl,?_,rfl,rfl,hg,?_,?_,rfl⟩
  ·rintro I m t g1 n2 hI ⟨hs1,j,ys,hm,hj,t0,t1,t5,t6,hyl,hb,hfj,hyt,hyd⟩
   simp only [Jy,t0,t1,t5,t6,Zcb,Jj,Jf,decide_eq_true_eq,decide_eq_false_iff_not]
   refine ⟨fun hlt=> ?_,fun hge=> ?_⟩
   ·have hlt:j<xs.length:=by omega
    have he:xs[j]? =some xs[j]:=List.getElem?_eq_getElem hlt
    generalize xs[j]=e at he
    have hye:ys[j]? =some e:=by
     have h1:=JbM he
     rw [←hyd] at h1
     have:(ys.drop j)[0]? =some e:=by rw [h1];rfl
     simpa using this
    have hd1:ys.drop (j+1)=xs.drop (j+1):=by
     have h1:=JbM he
     rw [←hyd,JbM hye] at h1
     exact (List.cons.inj h1).2
    refine Qv (by omega) (by omega) ?_
    simp only [Zc,Int.toNat_natCast,Nat.zero_add]
    refine hb.ldN Jg hye ?_
    intro hn2
    simp only [Qf]
    refine ⟨Jg e,XB (Xa _ _ _) rfl (by rw [Jg];decide) (Jad e) ?_⟩
    have hs3:Sub g1 _:=(((Sub.refl g1).new hn2 (some (.cells [(.int .i64 0),(.int .i64 0),(.int .u64 0),(.int .u64 0),(.int .u64 0),(.int .u64 0),(.int .u64 0),(.int .u64 0),(.int .u64 0),(.int .u64 0),(.int .i64 0)] .exact))).upd_fresh (some (.cells (encS e) .exact)) hn2)
    have hl3:(upd (upd g1 n2 (some (.cells [(.int .i64 0),(.int .i64 0),(.int .u64 0),(.int .u64 0),(.int .u64 0),(.int .u64 0),(.int .u64 0),(.int .u64 0),(.int .u64 0),(.int .u64 0),(.int .i64 0)] .exact))) n2 (some (.cells (encS e) .exact))) n2=some (.cells (encS e) .exact):=Xa _ _ _
    rw [Xv (cs:=[(.int .i64 0),(.int .i64 0),(.int .u64 0),(.int .u64 0),(.int .u64 0),(.int .u64 0),(.int .u64 0),(.int .u64 0),(.int .u64 0),(.int .u64 0),(.int .i64 0)]) (vs:=encS e) (by rw [Jg];rfl)]
    refine ldS (Xa _ _ _) ?_
    refine hsuch _ _ e _ (hs1.trans hs3) (fun n3=> ?_)
    simp only [Jaw,Jf,Jo]
    have next: ∀(t:Env) (g4:G) (n1:Nat) (zs:List St),Sub g0 g4→t 0= .slice (some ⟨l,0,none⟩) xs.length c→t 1=such→t 5= .int .i64 (((xs.take (j+1)).filter fun e=> !p e).length:Nat)→t 6= .int .i64 j→zs.length=xs.length→Blk1 encS g4 l zs bk→
      ((xs.take (j+1)).filter fun e=> !p e).length<j+1→zs.take ((xs.take (j+1)).filter fun e=> !p e).length=(xs.take (j+1)).filter (fun e=> !p e)→zs.drop (j+1)=xs.drop (j+1)→Qj AC K I t g4 n1:=by
     intro t g4 n1 zs hs t0 t1 t5 t6 h1 h2 h3 h4 h5
     simp only [Qj,t6,Jo]
     rw [ZaZ (by omega)]
     exact hI (xs.length-(j+1)) _ _ _ (by omega) ⟨hs,j+1,zs,rfl,by omega,t0,t1,t5,rfl,h1,h2,h3,h4,h5⟩
    refine ⟨fun hpe=> ?_,fun hpe=> ?_⟩
    ·have hpe:p e=false:=by simpa using hpe
     have hf:(xs.take (j+1)).filter (fun e=> !p e)=(xs.take j).filter (fun e=> !p e)++[e]:=by rw [take_add he];simp [hpe]
     refine ldS hl3 ?_
     refine Qv (by omega) (by omega) ?_
     simp only [Zc,Qf,Int.toNat_natCast,Nat.zero_add]
     refine ⟨Jg e,(hb.mono hs3).stN (i:=((xs.take j).filter fun e=> !p e).length) (y:=e) Jg Jad hrw (by omega) (fun hb'=> ?_)⟩
     rw [ZaZ (by omega)]
     refine next _ _ _ (ys.set ((xs.take j).filter fun e=> !p e).length e) ((hs1.trans hs3).upd_fresh _ h0) t0 t1 ?_ t6 (by simpa using hyl) hb' (by rw [hf];simp;omega) ?_ ?_
     ·show Value.int .i64 _=_
      rw [hf];simp
     ·rw [hf,List.length_append,List.length_singleton,Xdq (by omega),hyt]
     ·rw [List.drop_set,if_pos (by omega)];exact hd1
    ·have hpe:p e=true:=by simpa using hpe
     have hf:(xs.take (j+1)).filter (fun e=> !p e)=(xs.take j).filter (fun e=> !p e):=by rw [take_add he];simp [hpe]
     exact next _ _ _ ys (hs1.trans hs3) t0 t1 (by rw [hf];exact t5) t6 hyl (hb.mono hs3) (by rw [hf];omega) (by rw [hf];exact hyt) hd1
   ·have hje:j=xs.length:=by omega
    subst hje
    rw [List.take_length] at hfj hyt t5
    simp only [Zz]
    show Xu (t 0) (some (t 5)) none none 11 _
    rw [t0,t5]
    have hcc:(c<LC∧xs.length≤c)∨c=LC+11:=by rcases hck with ⟨h1,_,h2⟩|⟨h1,_⟩<;>omega
    refine XaC hcc (by omega) (fun o' c' ho=> ?_)
    rw [←hyl]
    have fin: ∀(g4:G) (zs:List St),Sub g0 g4→zs.take (xs.filter fun e=> !p e).length=xs.filter (fun e=> !p e)→zs.length=ys.length→Blk1 encS g4 l zs bk→Xu (puts t [(16,.int .i64 xs.length),(17,.slice (some ⟨l,0,none⟩) ys.length c),(18,.int .i64 ys.length),(19,.bool (decide ((xs.length:Int)<(ys.length:Int))))] 0) none (some (puts t [(16,.int .i64 xs.length),(17,.slice (some ⟨l,0,none⟩) ys.length c),(18,.int .i64 ys.length),(19,.bool (decide ((xs.length:Int)<(ys.length:Int))))] 5)) none 11 fun v41=>Qc K v41 g4 n2:=by
     intro g4 zs hs hz hl hb
     show Xu (t 0) none (some (t 5)) none 11 _
     rw [t0,t5]
     refine JbL hcc (by omega) (Ja (Sub.refl _) (hK _ _ _ hs ?_ (fun _ l' hl'=>by cases hl';exact h0)))
     have:=hb.sl (i:=0) (m:=(xs.filter fun e=> !p e).length) (c:=c) Jg (by omega)
     rw [Nat.zero_mul,List.drop_zero,hz] at this
     exact this
    rw [hyl]
    rw [hyl] at fin
    rw [show xs.length-(xs.filter fun e=> !p e).length=ys.length-(xs.filter fun e=> !p e).length by rw [hyl]]
    refine Blk1.clear (y:=J4) Jg Jad hb hrw (by omega) (fun h=>ho (by omega)) (fun h=>fin _ ys hs1 hyt hyl hb) (fun zs h1 h2 h3=>fin _ zs (hs1.upd_fresh _ h0) (by rw [h1];exact hyt) (by omega) h3)
  ·show Value.int .i64 _=_
   rw [hf0,hl0]
  ·rw [hf0,hl0];omega
  ·rw [hf0,hl0]
end Go.Proofs.YtmchcjaomcdbmaaGreat.Gen
namespace Go.Proofs.YtmchcjaomcdbmaaGreat.Gen
open Go Go.Proofs.YtmchcjaomcdbmaaGreat.Abs Go.RowKit
variable {g:G} {n:Nat}
def Arr.part (A:Arr) (line:Int):List St:=(A.l.drop (A.from line)).take A.ways
def Arr.at (A:Arr) (line:Int):Option Nat:=if line<0 then none else (A.part line).findIdx? fun s=>decide (s.state≠0)&&decide (s.line=line)
def Arr.free (A:Arr) (line:Int):Option Nat:=(A.part line).findIdx? fun s=>decide (s.state=0)
def Arr.put (A:Arr) (line:Int) (k:Nat) (s:St):Arr:={ A with l:=A.l.set (A.from line+k) s }
def Arr.tick (A:Arr):Arr:={ A with used:=A.used+1 }
def Arr.set (A:Arr) (line state:Int) (d:Ln):Int×Arr:=
 if line<0∨state<1∨9<state then (1,A) else
 match (A.at line).or (A.free line) with
 | none=>(13,A)
 | some k=>(0,A.tick.put line k ⟨state,line,d,A.used+1⟩)
def Arr.slotAt (A:Arr) (line:Int) (k:Nat):St:=A.l.getD (A.from line+k) J4
def Arr.touch (A:Arr) (line:Int):Arr:=match A.at line with
 | none=>A
 | some k=>A.tick.put line k { A.slotAt line k with used:=A.used+1 }
def Arr.drop (A:Arr) (line:Int):Arr:=match A.at line with
 | none=>A
 | some k=>A.put line k J4
def Arr.find (A:Arr) (line:Int):St×Bool:=match A.at line with
 | none=>(J4,false)
 | some k=>(A.slotAt line k,true)
def JD:List St→Int→Int→Bool×Int
 | [],v,_=>(false,v)
 | s::l,v,last=>if s.state=0 then (true,-1) else
  if 1≤s.state∧s.state≤3∧(v<0∨s.used<last) then JD l s.line s.used else JD l v last
def Arr.room (A:Arr) (line:Int):Bool×Int:=if line<0 then (false,-1) else JD (A.part line) (-1) 0
def Arr.slots (A:Arr):List St:=A.l.filter fun s=> !decide (s.state=0)
theorem Arr.part_len {A:Arr} (h:A.ok) {line:Int} (hl:0≤line):(A.part line).length=A.ways:=by
 have h1:=Arr.from_le h hl
 have h2:=h.2.2.2.1
 unfold Arr.part
 rw [List.length_take,List.length_drop];omega
theorem Arr.part_get {A:Arr} (h:A.ok) {line:Int} (hl:0≤line) {k:Nat} (hk:k<A.ways):(A.part line)[k]? =some (A.slotAt line k):=by
 have h1:=Arr.from_le h hl
 have h2:=h.2.2.2.1
 unfold Arr.part Arr.slotAt
 rw [List.getElem?_take,if_pos hk,List.getElem?_drop,List.getD_eq_getElem?_getD,List.getElem?_eq_getElem (by omega)];rfl
theorem Arr.at_lt {A:Arr} (h:A.ok) {line:Int} {k:Nat} (hk:A.at line=some k):0≤line∧k<A.ways:=by
 unfold Arr.at at hk
 split at hk
 ·cases hk
 ·have:=List.findIdx?_eq_some_iff_getElem.1 hk
  obtain ⟨h1,_⟩:=this
  rw [Arr.part_len h (by omega)] at h1
  exact ⟨by omega,h1⟩
theorem Arr.free_lt {A:Arr} (h:A.ok) {line:Int} (hl:0≤line) {k:Nat} (hk:A.free line=some k):k<A.ways:=by
 obtain ⟨h1,_⟩:=List.findIdx?_eq_some_iff_getElem.1 hk
 rw [Arr.part_len h hl] at h1
 exact h1
theorem Arr.put_ok {A:Arr} (h:A.ok) (line:Int) (k:Nat) (s:St):(A.put line k s).ok:=by
 obtain ⟨h1,h2,h3,h4,h5⟩:=h
 exact ⟨h1,h2,h3,by simp [Arr.put,h4],h5⟩
theorem Zfw {l3:Nat} {e:St} {line:Int} (hl:g l3=some (.cells [.int .i64 line] .exact)) {K:Cont} (hK: ∀n',K (.bool (decide (e.state≠0)&&decide (e.line=line))) g n'):
  AC Xaj [.agg (encS e).toArray,ptr l3 0] g n K:=by
 refine ACalls.fold Jb ?_
 rw [←QbB]
 simp only [Ja8,Qf]
 intro hn
 have hs:=(Sub.refl g).new hn (some (.cells (encS e) .exact))
 refine Qb (Xa _ _ _) (Zd5 e) ?_
 simp only [Jam,Jf,decide_eq_true_eq,decide_eq_false_iff_not,Zc]
 refine ⟨fun h=> ?_,fun h=> ?_⟩
 ·refine Qb (Xa _ _ _) (XeX e) ?_
  refine Qb (hs.live hl) rfl ?_
  simp only [Qw]
  refine Ja hs ?_
  have:=hK n
  rw [decide_eq_true h,Bool.true_and] at this
  exact hK _ |> fun k=>by rw [decide_eq_true h,Bool.true_and] at k;exact k
 ·exact Ja hs (by have k:=hK (n+1);rw [decide_eq_false h,Bool.false_and] at k;exact k)
theorem JcR {e:St} {K:Cont} (hK: ∀n',K (.bool (decide (e.state=0))) g n'):AC Qau [.agg (encS e).toArray] g n K:=by
 refine ACalls.fold Jb ?_
 rw [←ZcM]
 simp only [QcK,Qf]
 intro hn
 refine Qb (Xa _ _ _) (Zd5 e) ?_
 simp only [Qw]
 exact Ja ((Sub.refl g).new hn _) (hK _)
theorem Qdi {A:Arr} {la ls:Nat} {line:Int} (hok:A.ok) (hh:ArrH g la ls A) (hl:0≤line):Sl encS 11 g (Xf4 ls A line) (A.part line):=by
 have h1:=Arr.from_le hok hl
 exact hh.row.sl Jg (by rw [hok.2.2.2.1];exact h1)
theorem Zdb {A:Arr} {la ls:Nat} {line:Int} (hok:A.ok) (hh:ArrH g la ls A) {K:Cont} (hK: ∀n',K (Qdl (A.at line)) g n'):AC XH [ptr la 0,.int .i64 line] g n K:=by
 refine ACalls.fold Jb ?_
 rw [←Jb6]
 simp only [Zbz]
 refine ⟨rfl,?_⟩
 intro hn
 have hs:=(Sub.refl g).new hn (some (.cells [.int .i64 line] .exact))
 have hl3:=Xa g n (some (.cells [.int .i64 line] .exact))
 generalize upd g n (some (.cells [.int .i64 line] .exact))=g1 at*
 simp only [Zp]
 refine Zd rfl (Qb hl3 rfl ?_)
 simp only [Jj,Jf,decide_eq_true_eq,decide_eq_false_iff_not]
 refine ⟨fun h=>Ja hs ?_,fun h=> ?_⟩
 ·have:=hK (n+1)
  unfold Arr.at at this
  rw [if_pos h] at this
  exact this
 ·refine Qb hl3 rfl ?_
  refine Zbp hok (hh.mono hs) (by omega) (fun n2=> ?_)
  refine JS (fun s=>decide (s.state≠0)&&decide (s.line=line)) (Qdi hok (hh.mono hs) (by omega)) (fun g' n' e K hs' hK'=> ?_) (by rw [Arr.part_len hok (by omega)];have:=hok.2.2.1;omega) (fun n3=>Ja hs ?_)
  ·simp only [Zdf]
   exact Zfw (hs'.live hl3) hK'
  ·have:=hK n3
   unfold Arr.at at this
   rw [if_neg h] at this
   exact this
theorem QcJ {A:Arr} {la ls:Nat} (hok:A.ok) (hh:ArrH g la ls A) {K:Cont}
  (hK: ∀n',K (.int .i64 (A.used+1)) (upd g la (some (.cells (Qgo A.tick ls) .exact))) n'):AC ZM [ptr la 0] g n K:=by
 refine ACalls.fold Jb ?_
 rw [←Jbd]
 simp only [QaJ,Zf,Zc,Nat.zero_add]
 refine Qb hh.obj rfl ?_
 have hu:=hok.2.2.2.2
 simp only [Jo]
 rw [Xn (by omega) (by omega)]
 refine ZR hh.obj rfl (by simp [Qgo]) rfl ?_
 refine Qb (Xa _ _ _) rfl ?_
 exact Ja (Sub.refl _) (hK _)
theorem ArrH.tick {A:Arr} {la ls:Nat} (hh:ArrH g la ls A):ArrH (upd g la (some (.cells (Qgo A.tick ls) .exact))) la ls A.tick:=
 ⟨Xa _ _ _,by show upd g la _ ls=_;rw [Xc _ _ (fun e=>hh.ne e.symm)];exact hh.row,hh.ne⟩
theorem ArrH.stS {A:Arr} {la ls:Nat} {line:Int} {k:Nat} {s:St} {K:G→Prop} (hok:A.ok) (hl:0≤line) (hh:ArrH g la ls A) (hk:k<A.ways)
  (kk: ∀g',Sub (hide g la ls) g'→ArrH g' la ls (A.put line k s)→K g'):Xw g ls (A.from line*11+k*11) (encS s) K:=by
 have h1:=Arr.from_le hok hl
 have h2:=hok.2.2.2.1
 rw [←Nat.add_mul]
 refine hh.row.stN Jg Jad rfl (by omega) (fun hb=>kk _ ?_ ⟨?_,hb,hh.ne⟩)
 ·exact (Za2 g la ls).upd_fresh _ (Ze8 _ _ _)
 ·rw [Xc _ _ hh.ne];exact hh.obj
theorem Qeo {a b u:Int} {d:Ln} {K:List Value→Prop} (k:K (encS ⟨a,b,d,u⟩)):Xk (encS J4) [(0,none,.int .i64 a),(1,none,.int .i64 b),(2,some 8,.agg (Xl d).toArray),(10,none,.int .i64 u)] K:=by
 refine ⟨rfl,by rw [Jg];decide,rfl,by rw [List.length_set,Jg];decide,?_⟩
 refine ⟨Jd d,by simp [Jg],rfl,?_,?_⟩
 ·simp only [splice,List.length_append,List.length_take,List.length_drop,List.length_set,Jg,Jd];omega
 ·have:(splice ((((encS J4).set 0 (.int .i64 a)).set 1 (.int .i64 b))) 2 (Xl d)).set 10 (.int .i64 u)=encS ⟨a,b,d,u⟩:=by
   have e:splice ((((encS J4).set 0 (.int .i64 a)).set 1 (.int .i64 b))) 2 (Xl d)=[.int .i64 a,.int .i64 b]++Xl d++[.int .i64 0]:=by
    unfold splice
    rw [Jd]
    rfl
   rw [e,List.set_append,if_neg (by simp [Jd])]
   simp [Jd,encS]
  rw [this];exact k
end Go.Proofs.YtmchcjaomcdbmaaGreat.Gen
namespace Go.Proofs.YtmchcjaomcdbmaaGreat.Gen
open Go Go.Proofs.YtmchcjaomcdbmaaGreat.Abs Go.RowKit
variable {g:G} {n:Nat}
theorem Arr.tick_ok {A:Arr} (h:A.ok) (hu:A.used<100000):A.tick.ok:=by
 obtain ⟨h1,h2,h3,h4,h5,h6⟩:=h
 exact ⟨h1,h2,h3,h4,by show 0≤A.used+1;omega,by show A.used+1<1000000;omega⟩
theorem Jck {A:Arr} {la ls:Nat} {line state:Int} {d:Ln} (hok:A.ok) (hu:A.used<100000) (hh:ArrH g la ls A) {K:Cont}
  (hK: ∀g' n',Sub (hide g la ls) g'→ArrH g' la ls (A.set line state d).2→K (.int .i64 (A.set line state d).1) g' n'):
  AC ZE [ptr la 0,.int .i64 line,.int .i64 state,.agg (Xl d).toArray] g n K:=by
 refine ACalls.fold Jb ?_
 rw [←XbM]
 simp only [Qbj,Qf]
 intro hn
 have hs:=(Sub.refl g).new hn (some (.cells (Xl d) .exact))
 have hl7:=Xa g n (some (.cells (Xl d) .exact))
 have hla:=Zl hh.obj hn
 generalize upd g n (some (.cells (Xl d) .exact))=g1 at*
 have hh1:=hh.mono hs
 have err: ∀m,(line<0∨state<1∨9<state)→Qc K (.int .i64 1) g1 m:=by
  intro m h
  have e:A.set line state d=(1,A):=by unfold Arr.set;rw [if_pos h]
  rw [e] at hK
  exact Ja (Sub.refl _) (hK _ _ ((Za2 g la ls).trans hs) hh1)
 simp only [Zp]
 refine Zd rfl ?_
 simp only [Jj,Zbs,Jf,decide_eq_true_eq,decide_eq_false_iff_not]
 refine ⟨fun h=>err _ (.inl h),fun h1=>⟨fun h=>err _ (.inr (.inl h)),fun h2=>⟨fun h=>err _ (.inr (.inr h)),fun h3=> ?_⟩⟩⟩
 have hl:0≤line:=by omega
 have hne: ¬(line<0∨state<1∨9<state):=by omega
 have j1: ∀(t:Env) (m:Nat),t 0=ptr la 0→t 1= .int .i64 line→t 2= .int .i64 state→t 7=ptr n 0→t 9=Qdl ((A.at line).or (A.free line))→t 10=Xf4 ls A line→QZ AC K t g1 m:=by
  intro t m t0 t1 t2 t7 t9 t10
  simp only [QZ,t0,t1,t2,t7,t9,t10]
  cases ho:(A.at line).or (A.free line) with
  | none=>
   have e:A.set line state d=(13,A):=by unfold Arr.set;rw [if_neg hne,ho]
   rw [e] at hK
   simp only [Qdl,Jj]
   exact Jh rfl (Ja (Sub.refl _) (hK _ _ ((Za2 g la ls).trans hs) hh1))
  | some k=>
   have e:A.set line state d=(0,A.tick.put line k ⟨state,line,d,A.used+1⟩):=by unfold Arr.set;rw [if_neg hne,ho]
   rw [e] at hK
   have hk:k<A.ways:=by
    cases ha:A.at line with
    | none=>rw [ha] at ho;exact Arr.free_lt hok hl (by simpa using ho)
    | some k'=>rw [ha] at ho;simp at ho;subst ho;exact (Arr.at_lt hok ha).2
   simp only [Qdl,Jj]
   refine Zd (by simp) ?_
   simp only [Zc]
   refine ldL hl7 ?_
   refine QcJ hok hh1 (fun n2=> ?_)
   refine ⟨Xc _ _ hla,Qeo ?_⟩
   refine Qv (by omega) (by omega) ?_
   simp only [Zc,Qf,Int.toNat_natCast]
   refine ⟨Jg _,ArrH.stS (A:=A.tick) (line:=line) (Arr.tick_ok hok hu) hl hh1.tick hk (fun g' hs' hh'=>Ja (Sub.refl _) (hK _ _ ?_ hh'))⟩
   rw [Zea] at hs'
   exact (JaG hs).trans hs'
 refine Zdb hok hh1 (fun n2=> ?_)
 refine Zbp hok hh1 hl (fun n3=> ?_)
 cases ha:A.at line with
 | none=>
  simp only [Qdl,Jj]
  refine Jh rfl ?_
  refine JS (fun s=>decide (s.state=0)) (Qdi hok hh1 hl) (fun g' n' e K hs' hK'=> ?_) (by rw [Arr.part_len hok hl];have:=hok.2.2.1;omega) (fun n4=> ?_)
  ·simp only [Zdf]
   exact JcR hK'
  ·exact j1 _ _ rfl rfl rfl rfl (by rw [ha];rfl) rfl
 | some k=>
  simp only [Qdl,Jj]
  refine Zd (by simp) ?_
  exact j1 _ _ rfl rfl rfl rfl (by rw [ha];rfl) rfl
end Go.Proofs.YtmchcjaomcdbmaaGreat.Gen
namespace Go.Proofs.YtmchcjaomcdbmaaGreat.Gen
open Go Go.Proofs.YtmchcjaomcdbmaaGreat.Abs Go.RowKit
variable {g:G} {n:Nat}
theorem Zfk {α:Type} {enc:α→List Value} {z:Nat} (hz: ∀x,(enc x).length=z) {xs:List α} {i j:Nat} {x y:α} {v:Value} (hi:xs[i]? =some x) (hj:j<z) (hy:enc y=(enc x).set j v):
  ((xs.map enc).flatten).set (i*z+j) v=((xs.set i y).map enc).flatten:=by
 have hlt:i<xs.length:=by rcases Nat.lt_or_ge i xs.length with h|h;exact h;rw [List.getElem?_eq_none h] at hi;cases hi
 have e:xs=xs.take i++x::xs.drop (i+1):=by
  rw [List.getElem?_eq_getElem hlt] at hi
  cases hi
  rw [←List.drop_eq_getElem_cons hlt,List.take_append_drop]
 have e2:xs.set i y=xs.take i++y::xs.drop (i+1):=by rw [List.set_eq_take_append_cons_drop,if_pos hlt]
 have hl:((xs.take i).map enc).flatten.length=i*z:=by rw [Zk enc z hz,List.length_take];congr 1;omega
 rw [e2]
 conv=>lhs;rw [e]
 simp only [List.map_append,List.map_cons,List.flatten_append,List.flatten_cons]
 rw [List.set_append,if_neg (by omega),hl,show i*z+j-i*z=j by omega,List.set_append,if_pos (by rw [hz];exact hj),hy]
theorem XeH {A:Arr} {la ls:Nat} {line:Int} (hok:A.ok) (hu:A.used<100000) (hh:ArrH g la ls A) {K:Cont}
  (hK: ∀g' n',Sub (hide g la ls) g'→ArrH g' la ls (A.touch line)→K (.tuple #[]) g' n'):AC Xad [ptr la 0,.int .i64 line] g n K:=by
 refine ACalls.fold Jb ?_
 rw [←Qbu]
 simp only [JaO]
 refine Zdb hok hh (fun n1=> ?_)
 cases ha:A.at line with
 | none=>
  have e:A.touch line=A:=by unfold Arr.touch;rw [ha]
  rw [e] at hK
  simp only [Qdl,QK]
  exact Zd rfl (Ja (Sub.refl _) (hK _ _ (Za2 g la ls) hh))
 | some k=>
  have e:A.touch line=A.tick.put line k { A.slotAt line k with used:=A.used+1 }:=by unfold Arr.touch;rw [ha]
  rw [e] at hK
  obtain ⟨hl,hk⟩:=Arr.at_lt hok ha
  have h1:=Arr.from_le hok hl
  have h2:=hok.2.2.2.1
  simp only [Qdl,QK]
  refine Jh (by simp) ?_
  refine Zbp hok hh hl (fun n3=> ?_)
  refine QcJ hok hh (fun n4=> ?_)
  refine Qv (by omega) (by omega) ?_
  simp only [Zc,Int.toNat_natCast]
  have hr:=hh.tick.row
  have hlen:((A.l.map encS).flatten).length=A.l.length*11:=Zk encS 11 Jg _
  refine ZR hr rfl ?_ rfl ?_
  ·show _<((A.l.map encS).flatten).length
   rw [hlen];omega
  ·have hx:A.l[A.from line+k]? =some (A.slotAt line k):=by
    unfold Arr.slotAt
    rw [List.getD_eq_getElem?_getD,List.getElem?_eq_getElem (by omega)];rfl
   have hy:encS { A.slotAt line k with used:=A.used+1 }=(encS (A.slotAt line k)).set 10 (.int .i64 (A.used+1)):=by
    unfold encS
    rw [List.set_append,if_neg (by simp [Jd])]
    simp [Jd]
   have:=Zfk (z:=11) Jg hx (by decide) hy
   rw [Nat.add_mul] at this
   show Qc K _ (upd _ ls (some (.cells (((A.l.map encS).flatten).set (A.from line*11+k*11+10) (.int .i64 (A.used+1))) .exact))) n4
   rw [this]
   refine Ja (Sub.refl _) (hK _ _ ?_ ⟨?_,Xa _ _ _,hh.ne⟩)
   ·have:=(Za2 (upd g la (some (.cells (Qgo A.tick ls) .exact))) la ls).upd_fresh (some (.cells ((A.l.set (A.from line+k) { A.slotAt line k with used:=A.used+1 }).map encS).flatten .exact)) (Ze8 _ _ _)
    rw [Zea] at this
    exact this
   ·rw [Xc _ _ hh.ne];exact hh.tick.obj
theorem JeP {A:Arr} {la ls:Nat} {line:Int} (hok:A.ok) (hh:ArrH g la ls A) {K:Cont}
  (hK: ∀g' n',Sub (hide g la ls) g'→ArrH g' la ls (A.drop line)→K (.bool (A.at line).isSome) g' n'):AC Jah [ptr la 0,.int .i64 line] g n K:=by
 refine ACalls.fold Jb ?_
 rw [←ZbL]
 simp only [Qa5]
 refine Zdb hok hh (fun n1=> ?_)
 cases ha:A.at line with
 | none=>
  have e:A.drop line=A:=by unfold Arr.drop;rw [ha]
  rw [e,ha] at hK
  simp only [Qdl,QK]
  refine Zd rfl ?_
  simp only [ZT]
  show Xb .int .geq (.int .i64 (-1)) (.int .i64 0) _
  simp only [QK]
  exact Ja (Sub.refl _) (hK _ _ (Za2 g la ls) hh)
 | some k=>
  have e:A.drop line=A.put line k J4:=by unfold Arr.drop;rw [ha]
  rw [e,ha] at hK
  obtain ⟨hl,hk⟩:=Arr.at_lt hok ha
  have hw:=hok.2.2.1
  simp only [Qdl,QK]
  refine Jh (by simp) ?_
  refine Zbp hok hh hl (fun n3=> ?_)
  simp only [Jz]
  refine Qv (by omega) (by omega) ?_
  simp only [Zc,Qf,Int.toNat_natCast]
  refine ⟨rfl,ArrH.stS (s:=J4) hok hl hh hk (fun g' hs' hh'=> ?_)⟩
  simp only [ZT]
  show Xb .int .geq (.int .i64 (k:Int)) (.int .i64 0) _
  simp only [QK]
  refine Ja (Sub.refl _) ?_
  have:=hK _ n3 hs' hh'
  rw [decide_eq_true (by omega)]
  exact this
theorem Zfh {A:Arr} {la ls:Nat} {line:Int} (hok:A.ok) (hh:ArrH g la ls A) {K:Cont}
  (hK: ∀n',K (.tuple #[.agg (encS (A.find line).1).toArray,.bool (A.find line).2]) g n'):AC Xai [ptr la 0,.int .i64 line] g n K:=by
 refine ACalls.fold Jb ?_
 rw [←QbE]
 simp only [Xa8]
 intro hn
 have hs:=(Sub.refl g).new hn (some (.cells (encS J4) .exact))
 have hl4:=Xa g n (some (.cells (encS J4) .exact))
 change AC _ _ (upd g n (some (.cells (encS J4) .exact))) _ _
 have hh1:=hh.mono hs
 refine Zdb hok hh1 (fun n1=> ?_)
 cases ha:A.at line with
 | none=>
  have e:A.find line=(J4,false):=by unfold Arr.find;rw [ha]
  rw [e] at hK
  simp only [Qdl,Jj]
  refine Jh rfl ?_
  simp only [Jz,Qf]
  refine ⟨rfl,XB hl4 rfl (Nat.le_refl 11) (Jad J4) ?_⟩
  refine ldS (x:=J4) (Xa _ _ _) ?_
  exact Ja (hs.upd_fresh _ hn) (hK _)
 | some k=>
  have e:A.find line=(A.slotAt line k,true):=by unfold Arr.find;rw [ha]
  rw [e] at hK
  obtain ⟨hl,hk⟩:=Arr.at_lt hok ha
  simp only [Qdl,Jj]
  refine Zd (by simp) ?_
  refine Zbp hok hh1 hl (fun n3=> ?_)
  refine (Qdi hok hh1 hl).idx Jg (Arr.part_get hok hl hk) (fun l o hat=> ?_)
  simp only [Zc]
  refine hat.ldN (Jg _).symm ?_
  simp only [Qf]
  refine ⟨Jg _,XB hl4 rfl (by rw [Jg,Jg];decide) (Jad _) ?_⟩
  rw [Xv (by rw [Jg,Jg])]
  refine ldS (x:=A.slotAt line k) (Xa _ _ _) ?_
  exact Ja (hs.upd_fresh _ hn) (hK _)
end Go.Proofs.YtmchcjaomcdbmaaGreat.Gen
namespace Go.Proofs.YtmchcjaomcdbmaaGreat.Gen
open Go Go.Proofs.YtmchcjaomcdbmaaGreat.Abs Go.RowKit
variable {g:G} {n:Nat}
theorem Jfb {A:Arr} {la ls:Nat} {line:Int} (hok:A.ok) (hh:ArrH g la ls A) {K:Cont}
  (hK: ∀n',K (.tuple #[.bool (A.room line).1,.int .i64 (A.room line).2]) g n'):AC Jag [ptr la 0,.int .i64 line] g n K:=by
 refine ACalls.fold Jb ?_
 rw [←JbK]
 simp only [Za7,Zp]
 refine Zd rfl ?_
 simp only [Jj,Jf,decide_eq_true_eq,decide_eq_false_iff_not]
 refine ⟨fun h=> ?_,fun h=> ?_⟩
 ·unfold Arr.room at hK
  rw [if_pos h] at hK
  exact Ja (Sub.refl _) (hK _)
 have hl:0≤line:=by omega
 have hw:=hok.2.2.1
 have hpl:=Arr.part_len hok hl
 unfold Arr.room at hK
 rw [if_neg h] at hK
 refine Zbp hok hh hl (fun n1=> ?_)
 unfold Xf4
 simp only [Zcb]
 refine JY (fun m t g' n'=>Sub g g'∧ ∃(i:Nat) (v last:Int),m=A.ways-i∧i≤A.ways∧t 17=Xf4 ls A line∧t 18= .int .i64 A.ways∧t 19= .int .i64 i∧t 5= .int .i64 v∧t 6= .int .i64 last∧
   JD ((A.part line).drop i) v last=JD (A.part line) (-1) 0) ?_ (m:=A.ways) ⟨Sub.refl _,0,-1,0,by simp,by simp,rfl,rfl,rfl,rfl,rfl,by simp⟩
 rintro I m t g1 n2 hI ⟨hs1,i,v,last,hm,hi,t17,t18,t19,t5,t6,hsc⟩
 simp only [XaD,t17,t18,t19,Jj,Jf,decide_eq_true_eq,decide_eq_false_iff_not]
 refine ⟨fun hlt=> ?_,fun hge=> ?_⟩
 ·have hlt:i<A.ways:=by omega
  have he:(A.part line)[i]? =some (A.slotAt line i):=Arr.part_get hok hl hlt
  generalize A.slotAt line i=s at he
  rw [JbM he] at hsc
  refine (Qdi hok (hh.mono hs1) hl).idx Jg he (fun l o hat=> ?_)
  simp only [Zc]
  refine hat.ldN (Jg _).symm ?_
  intro hn
  simp only [Qf]
  refine ⟨Jg _,XB (Xa _ _ _) rfl (by rw [Jg];decide) (Jad _) ?_⟩
  rw [Xv (cs:=[.int .i64 0,.int .i64 0,.int .u64 0,.int .u64 0,.int .u64 0,.int .u64 0,.int .u64 0,.int .u64 0,.int .u64 0,.int .u64 0,.int .i64 0]) (by rw [Jg];rfl)]
  have hs2:=((Sub.refl g1).new hn (some (.cells [.int .i64 0,.int .i64 0,.int .u64 0,.int .u64 0,.int .u64 0,.int .u64 0,.int .u64 0,.int .u64 0,.int .u64 0,.int .u64 0,.int .i64 0] .exact))).upd_fresh (some (.cells (encS s) .exact)) hn
  have hl8:=Xa (upd g1 n2 (some (.cells [.int .i64 0,.int .i64 0,.int .u64 0,.int .u64 0,.int .u64 0,.int .u64 0,.int .u64 0,.int .u64 0,.int .u64 0,.int .u64 0,.int .i64 0] .exact))) n2 (some (.cells (encS s) .exact))
  generalize upd (upd g1 n2 (some (.cells [.int .i64 0,.int .i64 0,.int .u64 0,.int .u64 0,.int .u64 0,.int .u64 0,.int .u64 0,.int .u64 0,.int .u64 0,.int .u64 0,.int .i64 0] .exact))) n2 (some (.cells (encS s) .exact))=g2 at*
  have hsg:=hs1.trans hs2
  have next: ∀(t:Env) (m:Nat) (v' last':Int),t 17=Xf4 ls A line→t 18= .int .i64 A.ways→t 5= .int .i64 v'→t 6= .int .i64 last'→t 19= .int .i64 ((i+1:Nat):Int)→JD ((A.part line).drop (i+1)) v' last'=JD (A.part line) (-1) 0→I t g2 m:=by
   intro t m v' last' t17 t18 t5 t6 t19 h
   exact hI (A.ways-(i+1)) _ _ _ (by omega) ⟨hsg,i+1,v',last',rfl,by omega,t17,t18,t19,t5,t6,h⟩
  have j2: ∀(t:Env) (m:Nat),s.state≠0→t 17=Xf4 ls A line→t 18= .int .i64 A.ways→t 19= .int .i64 i→t 5= .int .i64 v→t 6= .int .i64 last→t 8=ptr n2 0→t 27= .bool (decide (1≤s.state∧s.state≤3))→ZJ AC K I t g2 m:=by
   intro t m h0 t17 t18 t19 t5 t6 t8 t27
   simp only [ZJ,t27,t5,t6,t8,t19,Zc,Jj,Jo,Jf,decide_eq_true_eq,decide_eq_false_iff_not]
   rw [ZaZ (by omega)]
   simp only [JD,if_neg h0] at hsc
   have ld1: ∀{K':Value→Prop},K' (.int .i64 s.line)→kLd g2 n2 (0+1) K':=fun k=>Qb hl8 (XeX s) k
   have ld10: ∀{K':Value→Prop},K' (.int .i64 s.used)→kLd g2 n2 (0+10) K':=fun k=>Qb hl8 (QfU s) k
   refine ⟨fun hr=>⟨fun hv=>ld1 (ld10 ?_),fun hv=>ld10 ?_⟩,fun hr=> ?_⟩
   ·rw [if_pos ⟨hr.1,hr.2,.inl hv⟩] at hsc
    exact next _ _ _ _ t17 t18 rfl rfl rfl hsc
   ·simp only [Jj,Jf,decide_eq_true_eq,decide_eq_false_iff_not]
    refine ⟨fun hu=>ld1 (ld10 ?_),fun hu=> ?_⟩
    ·rw [if_pos ⟨hr.1,hr.2,.inr hu⟩] at hsc
     exact next _ _ _ _ t17 t18 rfl rfl rfl hsc
    ·rw [if_neg (by omega)] at hsc
     exact next _ _ _ _ t17 t18 t5 t6 rfl hsc
   ·rw [if_neg (by omega)] at hsc
    exact next _ _ _ _ t17 t18 t5 t6 rfl hsc
  refine Qb hl8 (Zd5 s) ?_
  simp only [Qw,Jf,decide_eq_true_eq,decide_eq_false_iff_not]
  refine ⟨fun h0=> ?_,fun h0=>⟨fun h1=> ?_,fun h1=>⟨fun h2=> ?_,fun h2=> ?_⟩⟩⟩
  ·simp only [JD,if_pos h0] at hsc
   rw [←hsc] at hK
   exact Ja hsg (hK _)
  ·exact j2 _ _ h0 t17 t18 t19 t5 t6 rfl (by rw [show decide (1≤s.state∧s.state≤3)=true from by rw [decide_eq_true_eq];omega];show Value.bool _=_;rw [decide_eq_true h1])
  ·exact j2 _ _ h0 t17 t18 t19 t5 t6 rfl (by rw [show decide (1≤s.state∧s.state≤3)=true from by rw [decide_eq_true_eq];omega];show Value.bool _=_;rw [decide_eq_true h2])
  ·refine j2 _ _ h0 t17 t18 t19 t5 t6 rfl ?_
   show Value.bool (decide (s.state=3))=_
   congr 1
   rw [decide_eq_decide];omega
 ·have:i=A.ways:=by omega
  subst this
  rw [List.drop_of_length_le (by omega)] at hsc
  simp only [JD] at hsc
  rw [←hsc] at hK
  simp only [QaD]
  show Qc K (.tuple #[.bool false,t 5]) g1 n2
  rw [t5]
  exact Ja hs1 (hK _)
end Go.Proofs.YtmchcjaomcdbmaaGreat.Gen
namespace Go.Proofs.YtmchcjaomcdbmaaGreat.Gen
open Go Go.Proofs.YtmchcjaomcdbmaaGreat.Abs Go.RowKit
variable {g:G} {n:Nat}
@[simp] theorem Zc1 {a:Addr} {m c:Nat} {K:Value→Prop}:Xb .slice .eql (.slice (some a) m c) (.slice none 0 0) K=K (.bool false):=rfl
theorem Xcq {v:Value} {l o m c:Nat} {xs:List St} (hv:v= .slice (some ⟨l,o,none⟩) m c) (h:Sl encS 11 g v xs) (hlen:xs.length<1000000) {K:Cont}
  (hK: ∀v' g' n',Sub g g'→OwnS encS 11 g g' v' xs→K v' g' n'):AC Js [v] g n K:=by
 subst hv
 refine ACalls.fold Jb ?_
 rw [←Jac]
 simp only [JK,Zc1]
 refine Zd rfl ?_
 simp only [Jz]
 intro hn
 have hs:=(Sub.refl g).new hn (some (.cells (reps 0 [.int .i64 0,.int .i64 0,.int .u64 0,.int .u64 0,.int .u64 0,.int .u64 0,.int .u64 0,.int .u64 0,.int .u64 0,.int .u64 0,.int .i64 0]) .exact))
 refine OwnS.append (g0:=g) (xs:=([]:List St)) OwnS.empty hs (h.mono hs) Jad (by decide) (by simp;omega) (by simp;omega) (fun v' g' n' hs' ho' _ _=>Ja (Sub.refl _) (hK _ _ _ hs' ?_))
 simpa using ho'
theorem Qcu {A:Arr} {la ls:Nat} (hok:A.ok) (hh:ArrH g la ls A) {K:Cont}
  (hK: ∀v' g' n',Sub g g'→Sl encS 11 g' v' A.slots→(∀l,QaH v'=some l→g l=none)→K v' g' n'):AC JF [ptr la 0] g n K:=by
 refine ACalls.fold Jb ?_
 rw [←Zbw]
 simp only [QaW,Zp]
 refine Zd rfl ?_
 simp only [Zf,Zc,Nat.zero_add]
 refine Qb hh.obj rfl ?_
 have hlen:A.l.length<1000000:=by have:=Arr.small hok;have:=hok.2.2.2.1;omega
 have hsl:Sl encS 11 g (.slice (some ⟨ls,0,none⟩) (A.sets*A.ways) (A.sets*A.ways)) A.l:=by
  have:=hh.row.sl (i:=0) (m:=A.sets*A.ways) (c:=A.sets*A.ways) Jg (by rw [hok.2.2.2.1];omega)
  rw [Nat.zero_mul,List.drop_zero,List.take_of_length_le (by rw [hok.2.2.2.1];exact Nat.le_refl _)] at this
  exact this
 have hne:A.l≠[]:=by
  intro e
  have h0:=hok.2.2.2.1
  rw [e] at h0
  have h1:=hok.1
  have h2:=hok.2.1
  have h3:A.sets*A.ways=0:=h0.symm
  rcases Nat.mul_eq_zero.1 h3 with a|a<;>omega
 refine Xcq rfl hsl hlen (fun v1 g1 n1 hs1 ho1=> ?_)
 refine Xbk (fun s=>decide (s.state=0)) ho1 hs1 (fun g' n' e K hs' hK'=> ?_) hlen (fun v2 g2 n2 hs2 h2 h3=>Ja (Sub.refl _) (hK _ _ _ hs2 h2 (h3 hne)))
 simp only [Zdf]
 exact JcR hK'
theorem ZeD {A:Arr} {la ls:Nat} (hok:A.ok) (hh:ArrH g la ls A) {K:Cont}
  (hK: ∀v' g' n',Sub g g'→Sl encS 11 g' v' A.slots→K v' g' n'):AC JF [ptr la 0] g n K:=
 Qcu hok hh (fun v' g' n' a b _=>hK v' g' n' a b)
def Jd9 (s w:Nat):Arr:=⟨s,w,List.replicate (s*w) J4,0⟩
theorem Jf3 {s w:Nat} (hs:s=1∨s=2∨s=4∨s=8) (h1:1≤w) (h2:w≤8):(Jd9 s w).ok:=⟨hs,h1,h2,by simp [Jd9],by simp [Jd9],by simp [Jd9]⟩
def Qet (s w:Int):Prop:=(s=1∨s=2∨s=4∨s=8)∧1≤w∧w≤8
theorem Zft {s w:Nat} (hsm:s*w≤64) {K:Cont} (hK: ∀la ls g' n',Sub g g'→g la=none→g ls=none→ArrH g' la ls (Jd9 s w)→K (.tuple #[ptr la 0,.int .i64 0]) g' n'):
  QbK (.int .i64 ((s*w:Nat):Int)) (.int .i64 ((s*w:Nat):Int)) (encS J4) 88 g n fun v33 g3 n33=>
  Xk [(.int .i64 0),(.int .i64 0),(.slice none 0 0),(.int .i64 0)] [(0,none,.int .i64 s),(1,none,.int .i64 w),(2,none,v33)] fun c34=>
  Jl (.agg c34.toArray) fun c35=>
  Zw c35 .exact g3 n33 fun l35 g4 n35=>
  Qc K (.tuple #[(ptr l35 0),(.int .i64 0)]) g4 n35:=by
 refine ⟨by omega,by omega,by omega,by omega,?_⟩
 intro hn
 simp only [Int.toNat_natCast]
 refine ⟨rfl,by simp,rfl,by simp,rfl,by simp,?_⟩
 simp only [Jz,Qf]
 intro hn2
 have hs1:=(Sub.refl g).new hn (some (.cells (reps (s*w) (encS J4)) .exact))
 have hne:=Zl (Xa g n (some (.cells (reps (s*w) (encS J4)) .exact))) hn2
 refine Ja (Sub.refl _) (hK _ _ _ _ (hs1.new hn2 _) (hs1.none hn2) hn ⟨Xa _ _ _,?_,hne⟩)
 show upd _ _ _ _=_
 rw [Xc _ _ (fun e=>hne e.symm),Xa,Qam]
 rfl
theorem ZfJ {s w:Int} {K:Cont} (hbad: ¬Qet s w→ ∀n',K (.tuple #[.pointer none,.int .i64 1]) g n')
  (hK:Qet s w→ ∀la ls g' n',Sub g g'→g la=none→g ls=none→ArrH g' la ls (Jd9 s.toNat w.toNat)→K (.tuple #[ptr la 0,.int .i64 0]) g' n'):ZcH AC (.int .i64 s) (.int .i64 w) g n K:=by
 simp only [ZcH,Jam,Jj,Zbs,Zd4,Jf,decide_eq_true_eq,decide_eq_false_iff_not]
 have bad: ¬Qet s w→Qc K (.tuple #[.pointer none,.int .i64 1]) g n:=fun h=>Ja (Sub.refl _) (hbad h _)
 have tail:(s=1∨s=2∨s=4∨s=8)→((w<1→Qc K (.tuple #[.pointer none,.int .i64 1]) g n)∧(¬w<1→(8<w→Qc K (.tuple #[.pointer none,.int .i64 1]) g n)∧(¬8<w→
   QbK (.int .i64 (IntKind.i64.wrap (s*w))) (.int .i64 (IntKind.i64.wrap (s*w))) [(.int .i64 0),(.int .i64 0),(.int .u64 0),(.int .u64 0),(.int .u64 0),(.int .u64 0),(.int .u64 0),(.int .u64 0),(.int .u64 0),(.int .u64 0),(.int .i64 0)] 88 g n fun v33 g3 n33=>
   Xk [(.int .i64 0),(.int .i64 0),(.slice none 0 0),(.int .i64 0)] [(0,none,.int .i64 s),(1,none,.int .i64 w),(2,none,v33)] fun c34=>
   Jl (.agg c34.toArray) fun c35=>
   Zw c35 .exact g3 n33 fun l35 g4 n35=>
   Qc K (.tuple #[(ptr l35 0),(.int .i64 0)]) g4 n35))):=by
  intro hs
  refine ⟨fun h=>bad (fun hg=>by have:=hg.2;omega),fun h1=>⟨fun h=>bad (fun hg=>by have:=hg.2;omega),fun h2=> ?_⟩⟩
  obtain ⟨s',rfl⟩: ∃s':Nat,s=s':=⟨s.toNat,by omega⟩
  obtain ⟨w',rfl⟩: ∃w':Nat,w=w':=⟨w.toNat,by omega⟩
  have hsm:s'*w'≤64:=by
   have:=Nat.mul_le_mul (show s'≤8 by omega) (show w'≤8 by omega)
   omega
  rw [←Int.natCast_mul,Xn (by omega) (by omega)]
  exact Zft hsm (fun la ls g' n' a b c d=>hK ⟨hs,by omega,by omega⟩ la ls g' n' a b c d)
 refine ⟨fun h1=>⟨fun h2=>⟨fun h4=>⟨fun h8=>bad (fun hg=>by have:=hg.1;omega),fun h8=>tail (by omega)⟩,fun h4=>tail (by omega)⟩,fun h2=>tail (by omega)⟩,fun h1=>tail (by omega)⟩
theorem XfD {s w:Int} {K:Cont} (hbad: ¬Qet s w→ ∀n',K (.tuple #[.pointer none,.int .i64 1]) g n')
  (hK:Qet s w→ ∀la ls g' n',Sub g g'→g la=none→g ls=none→ArrH g' la ls (Jd9 s.toNat w.toNat)→K (.tuple #[ptr la 0,.int .i64 0]) g' n'):AC Xbl [.int .i64 s,.int .i64 w] g n K:=by
 refine ACalls.fold Jb ?_
 rw [←Qdt]
 exact ZfJ hbad hK
end Go.Proofs.YtmchcjaomcdbmaaGreat.Gen
namespace Go.Proofs.YtmchcjaomcdbmaaGreat.Gen
open Go Go.Proofs.YtmchcjaomcdbmaaGreat.Abs Go.RowKit
structure Arr.wf (A:Arr):Prop where
 place: ∀(i:Nat) (s:St),A.l[i]? =some s→s.state≠0→0≤s.line∧A.from s.line≤i∧i<A.from s.line+A.ways∧1≤s.state∧s.state≤9
 once: ∀(i j:Nat) (s t:St),A.l[i]? =some s→A.l[j]? =some t→s.state≠0→t.state≠0→(s.line=t.line∨s.used=t.used)→i=j
 used: ∀(i:Nat) (s:St),A.l[i]? =some s→s.state≠0→1≤s.used∧s.used≤A.used
theorem Arr.part_idx {A:Arr} {line:Int} {k:Nat} (hk:k<A.ways):(A.part line)[k]? =A.l[A.from line+k]? :=by
 unfold Arr.part
 rw [List.getElem?_take,if_pos hk,List.getElem?_drop]
theorem Arr.at_some {A:Arr} (h:A.ok) {line:Int} {k:Nat} (hk:A.at line=some k): ∃s,A.l[A.from line+k]? =some s∧s.state≠0∧s.line=line∧A.slotAt line k=s:=by
 obtain ⟨hl,hlt⟩:=Arr.at_lt h hk
 unfold Arr.at at hk
 rw [if_neg (by omega)] at hk
 obtain ⟨h1,h2,_⟩:=List.findIdx?_eq_some_iff_getElem.1 hk
 have e2:=Arr.part_get h hl hlt
 rw [Arr.part_idx hlt] at e2
 simp only [Bool.and_eq_true,decide_eq_true_eq] at h2
 refine ⟨_,e2,?_⟩
 have e3:(A.part line)[k]=A.slotAt line k:=by
  have:=Arr.part_get h hl hlt
  rw [List.getElem?_eq_getElem h1] at this
  exact Option.some.inj this
 rw [e3] at h2
 exact ⟨h2.1,h2.2,rfl⟩
theorem Arr.at_none {A:Arr} (h:A.ok) (hw:A.wf) {line:Int} (hk:A.at line=none): ∀(i:Nat) (s:St),A.l[i]? =some s→s.state≠0→s.line≠line:=by
 intro i s hi hs e
 subst e
 obtain ⟨h0,h1,h2,_⟩:=hw.place i s hi hs
 unfold Arr.at at hk
 rw [if_neg (by omega),List.findIdx?_eq_none_iff] at hk
 have hm:s∈A.part s.line:=by
  have:(A.part s.line)[i-A.from s.line]? =some s:=by
   rw [Arr.part_idx (by omega),show A.from s.line+(i-A.from s.line)=i by omega];exact hi
  exact List.mem_of_getElem? this
 have:=hk s hm
 simp [hs] at this
theorem Arr.at_of {A:Arr} (h:A.ok) (hw:A.wf) {i:Nat} {s:St} (hi:A.l[i]? =some s) (hs:s.state≠0):A.at s.line=some (i-A.from s.line):=by
 cases ha:A.at s.line with
 | none=>exact absurd rfl (Arr.at_none h hw ha i s hi hs)
 | some k=>
  obtain ⟨t,ht,ht0,hl,_⟩:=Arr.at_some h ha
  have:=hw.once _ _ _ _ ht hi ht0 hs (.inl hl)
  congr 1;omega
theorem Arr.free_some {A:Arr} (h:A.ok) {line:Int} (hl:0≤line) {k:Nat} (hk:A.free line=some k): ∃s,A.l[A.from line+k]? =some s∧s.state=0:=by
 have hlt:=Arr.free_lt h hl hk
 obtain ⟨h1,h2,_⟩:=List.findIdx?_eq_some_iff_getElem.1 hk
 refine ⟨(A.part line)[k],?_,by simpa using h2⟩
 rw [←Arr.part_idx hlt,List.getElem?_eq_getElem h1]
theorem Arr.free_none {A:Arr} {line:Int} (hk:A.free line=none): ∀(k:Nat) (s:St),k<A.ways→A.l[A.from line+k]? =some s→s.state≠0:=by
 intro k s hlt hi
 unfold Arr.free at hk
 rw [List.findIdx?_eq_none_iff] at hk
 have:=hk s (List.mem_of_getElem? (by rw [Arr.part_idx hlt];exact hi))
 simpa using this
theorem Arr.part_mem {A:Arr} {line:Int} {s:St} (hm:s∈A.part line): ∃i,A.l[i]? =some s∧A.from line≤i∧i<A.from line+A.ways:=by
 obtain ⟨j,hj⟩:=List.getElem?_of_mem hm
 unfold Arr.part at hj
 rw [List.getElem?_take] at hj
 split at hj
 ·rename_i hlt
  rw [List.getElem?_drop] at hj
  exact ⟨_,hj,by omega,by omega⟩
 ·cases hj
theorem Arr.put_wf {A:Arr} (h:A.ok) (hw:A.wf) {line:Int} (hl:0≤line) {k:Nat} (hk:k<A.ways) {s:St} (hs:s.line=line) (hu:s.used=A.used+1) (h1:1≤s.state) (h9:s.state≤9)
  (hat: ∀(i:Nat) (t:St),A.l[i]? =some t→t.state≠0→t.line=line→i=A.from line+k):(A.tick.put line k s).wf:=by
 have hf:=Arr.from_le h hl
 have hu0:=h.2.2.2.2.1
 have key: ∀(i:Nat) (t:St),(A.tick.put line k s).l[i]? =some t→(i=A.from line+k∧t=s)∨(i≠A.from line+k∧A.l[i]? =some t):=by
  intro i t hi
  have hi:(A.l.set (A.from line+k) s)[i]? =some t:=hi
  rw [List.getElem?_set] at hi
  split at hi
  ·rename_i e
   split at hi
   ·cases hi;exact .inl ⟨e.symm,rfl⟩
   ·cases hi
  ·rename_i e;exact .inr ⟨fun x=>e x.symm,hi⟩
 refine ⟨?_,?_,?_⟩
 ·intro i t hi ht
  rcases key i t hi with ⟨rfl,rfl⟩|⟨_,hi⟩
  ·rw [hs]
   exact ⟨hl,by show A.from line≤_;omega,by show _<A.from line+A.ways;omega,h1,h9⟩
  ·exact hw.place i t hi ht
 ·intro i j t t' hi hj ht ht' e
  rcases key i t hi with ⟨e1,e2⟩|⟨ni,hi2⟩<;>rcases key j t' hj with ⟨e3,e4⟩|⟨nj,hj2⟩
  ·rw [e1,e3]
  ·rw [e2] at e
   rcases e with e|e
   ·rw [e1];exact (hat j t' hj2 ht' (by rw [←e,hs])).symm
   ·have:=hw.used j t' hj2 ht';omega
  ·rw [e4] at e
   rcases e with e|e
   ·rw [e3];exact hat i t hi2 ht (by rw [e,hs])
   ·have:=hw.used i t hi2 ht;omega
  ·exact hw.once i j t t' hi2 hj2 ht ht' e
 ·intro i t hi ht
  rcases key i t hi with ⟨rfl,rfl⟩|⟨_,hi⟩
  ·exact ⟨by omega,by show t.used≤A.used+1;omega⟩
  ·have:=hw.used i t hi ht
   exact ⟨this.1,by show t.used≤A.used+1;omega⟩
theorem Arr.set_wf {A:Arr} (h:A.ok) (hw:A.wf) (line state:Int) (d:Ln):(A.set line state d).2.wf:=by
 unfold Arr.set
 split
 ·exact hw
 ·rename_i hc
  have hl:0≤line:=by omega
  cases ha:A.at line with
  | some k=>
   obtain ⟨t,ht,ht0,htl,_⟩:=Arr.at_some h ha
   obtain ⟨_,hk⟩:=Arr.at_lt h ha
   simp only [Option.some_or]
   exact Arr.put_wf h hw hl hk rfl rfl (by show 1≤state;omega) (by show state≤9;omega) (fun i t' hi ht' e=>hw.once _ _ _ _ hi ht ht' ht0 (.inl (by rw [e,htl])))
  | none=>
   simp only [Option.none_or]
   cases hf:A.free line with
   | none=>exact hw
   | some k=>
    exact Arr.put_wf h hw hl (Arr.free_lt h hl hf) rfl rfl (by show 1≤state;omega) (by show state≤9;omega) (fun i t' hi ht' e=>absurd e (Arr.at_none h hw ha i t' hi ht'))
theorem Arr.touch_wf {A:Arr} (h:A.ok) (hw:A.wf) (line:Int):(A.touch line).wf:=by
 unfold Arr.touch
 cases ha:A.at line with
 | none=>exact hw
 | some k=>
  obtain ⟨t,ht,ht0,htl,hst⟩:=Arr.at_some h ha
  obtain ⟨hl,hk⟩:=Arr.at_lt h ha
  have hp:=hw.place _ _ ht ht0
  refine Arr.put_wf h hw hl hk ?_ rfl ?_ ?_ (fun i t' hi ht' e=>hw.once _ _ _ _ hi ht ht' ht0 (.inl (by rw [e,htl])))
  ·show (A.slotAt line k).line=line;rw [hst];exact htl
  ·show 1≤(A.slotAt line k).state;rw [hst];exact hp.2.2.2.1
  ·show (A.slotAt line k).state≤9;rw [hst];exact hp.2.2.2.2
theorem Arr.drop_wf {A:Arr} (hw:A.wf) (line:Int):(A.drop line).wf:=by
 unfold Arr.drop
 cases ha:A.at line with
 | none=>exact hw
 | some k=>
  have key: ∀(i:Nat) (t:St),(A.put line k J4).l[i]? =some t→t.state≠0→A.l[i]? =some t:=by
   intro i t hi ht
   have hi:(A.l.set (A.from line+k) J4)[i]? =some t:=hi
   rw [List.getElem?_set] at hi
   split at hi
   ·split at hi
    ·cases hi;exact absurd rfl ht
    ·cases hi
   ·exact hi
  exact ⟨fun i t hi ht=>hw.place i t (key i t hi ht) ht,fun i j t t' hi hj ht ht' e=>hw.once i j t t' (key i t hi ht) (key j t' hj ht') ht ht' e,fun i t hi ht=>hw.used i t (key i t hi ht) ht⟩
theorem JfY (s w:Nat):(Jd9 s w).wf:=by
 have key: ∀(i:Nat) (t:St),(Jd9 s w).l[i]? =some t→t.state=0:=by
  intro i t hi
  have:=List.mem_of_getElem? hi
  have:=(List.mem_replicate.1 this).2
  subst this;rfl
 exact ⟨fun i t hi ht=>absurd (key i t hi) ht,fun i j t t' hi hj ht ht' e=>absurd (key i t hi) ht,fun i t hi ht=>absurd (key i t hi) ht⟩
theorem Arr.set_ok {A:Arr} (h:A.ok) (hu:A.used<100000) (line state:Int) (d:Ln):(A.set line state d).2.ok:=by
 unfold Arr.set
 split
 ·exact h
 ·split
  ·exact h
  ·exact Arr.put_ok (Arr.tick_ok h hu) _ _ _
theorem Arr.touch_ok {A:Arr} (h:A.ok) (hu:A.used<100000) (line:Int):(A.touch line).ok:=by
 unfold Arr.touch
 split
 ·exact h
 ·exact Arr.put_ok (Arr.tick_ok h hu) _ _ _
theorem Arr.drop_ok {A:Arr} (h:A.ok) (line:Int):(A.drop line).ok:=by
 unfold Arr.drop
 split
 ·exact h
 ·exact Arr.put_ok h _ _ _
theorem Arr.set_used (A:Arr) (line state:Int) (d:Ln):A.used≤(A.set line state d).2.used∧(A.set line state d).2.used≤A.used+1:=by
 unfold Arr.set
 split
 ·exact ⟨Int.le_refl _,by show A.used≤A.used+1;omega⟩
 ·split
  ·exact ⟨Int.le_refl _,by show A.used≤A.used+1;omega⟩
  ·exact ⟨by show A.used≤A.used+1;omega,by show A.used+1≤A.used+1;omega⟩
theorem Arr.touch_used (A:Arr) (line:Int):A.used≤(A.touch line).used∧(A.touch line).used≤A.used+1:=by
 unfold Arr.touch
 split
 ·exact ⟨Int.le_refl _,by omega⟩
 ·exact ⟨by show A.used≤A.used+1;omega,by show A.used+1≤A.used+1;omega⟩
theorem Arr.drop_used (A:Arr) (line:Int):(A.drop line).used=A.used:=by
 unfold Arr.drop
 split<;>rfl
def St.rest (s:St):Prop:=1≤s.state∧s.state≤3
theorem ZbX: ∀(l:List St) (v last:Int),(∃s∈l,s.state=0)→JD l v last=(true,-1)
 | [],_,_,h=>by obtain ⟨_,h,_⟩:=h;cases h
 | s::l,v,last,h=>by
  unfold JD
  by_cases h0:s.state=0
  ·rw [if_pos h0]
  ·rw [if_neg h0]
   have: ∃t∈l,t.state=0:=by
    obtain ⟨t,ht,e⟩:=h
    rcases List.mem_cons.1 ht with rfl|ht
    ·exact absurd e h0
    ·exact ⟨t,ht,e⟩
   split<;>exact ZbX l _ _ this
theorem Qaq: ∀(l:List St) (v last:Int),(∀s∈l,s.state≠0)→(∀s∈l,s.rest→0≤s.line)→(v= -1∨0≤v)→
  ∃v',JD l v last=(false,v')∧((v'= -1∧v= -1∧ ∀s∈l,¬s.rest)∨
   ∃u,((v'=v∧u=last∧0≤v)∨ ∃s∈l,s.rest∧s.line=v'∧s.used=u)∧(0≤v→u≤last)∧ ∀s∈l,s.rest→u≤s.used)
 | [],v,last,_,_,hv=>by
  refine ⟨v,rfl,?_⟩
  rcases hv with rfl|hv
  ·exact .inl ⟨rfl,rfl,by simp⟩
  ·exact .inr ⟨last,.inl ⟨rfl,rfl,hv⟩,fun _=>Int.le_refl _,by simp⟩
 | s::l,v,last,h0,hl,hv=>by
  unfold JD
  rw [if_neg (h0 s (by simp))]
  have h0': ∀s∈l,s.state≠0:=fun t ht=>h0 t (by simp [ht])
  have hl': ∀s∈l,s.rest→0≤s.line:=fun t ht=>hl t (by simp [ht])
  by_cases hr:s.rest
  ·have hls:=hl s (by simp) hr
   by_cases hc:v<0∨s.used<last
   ·rw [if_pos ⟨hr.1,hr.2,hc⟩]
    obtain ⟨v',e,hh⟩:=Qaq l s.line s.used h0' hl' (.inr hls)
    refine ⟨v',e,.inr ?_⟩
    rcases hh with ⟨_,h,_⟩|⟨u,h1,h2,h3⟩
    ·omega
    ·have h2:=h2 hls
     refine ⟨u,.inr ?_,fun _=>by omega,?_⟩
     ·rcases h1 with ⟨rfl,rfl,_⟩|⟨t,ht,h1⟩
      ·exact ⟨s,by simp,hr,rfl,rfl⟩
      ·exact ⟨t,by simp [ht],h1⟩
     ·intro t ht
      rcases List.mem_cons.1 ht with rfl|ht
      ·exact fun _=>h2
      ·exact h3 t ht
   ·rw [if_neg (fun h=>hc h.2.2)]
    obtain ⟨v',e,hh⟩:=Qaq l v last h0' hl' hv
    refine ⟨v',e,.inr ?_⟩
    rcases hh with ⟨_,h,_⟩|⟨u,h1,h2,h3⟩
    ·omega
    ·have h2':=h2 (by omega)
     refine ⟨u,?_,h2,?_⟩
     ·rcases h1 with h1|⟨t,ht,h1⟩
      ·exact .inl h1
      ·exact .inr ⟨t,by simp [ht],h1⟩
     ·intro t ht
      rcases List.mem_cons.1 ht with rfl|ht
      ·intro _;omega
      ·exact h3 t ht
  ·rw [if_neg (fun h=>hr ⟨h.1,h.2.1⟩)]
   obtain ⟨v',e,hh⟩:=Qaq l v last h0' hl' hv
   refine ⟨v',e,?_⟩
   rcases hh with ⟨h1,h2,h3⟩|⟨u,h1,h2,h3⟩
   ·refine .inl ⟨h1,h2,fun t ht=> ?_⟩
    rcases List.mem_cons.1 ht with rfl|ht
    ·exact hr
    ·exact h3 t ht
   ·refine .inr ⟨u,?_,h2,fun t ht=> ?_⟩
    ·rcases h1 with h1|⟨t,ht,h1⟩
     ·exact .inl h1
     ·exact .inr ⟨t,by simp [ht],h1⟩
    ·rcases List.mem_cons.1 ht with rfl|ht
     ·exact fun h=>absurd h hr
     ·exact h3 t ht
end Go.Proofs.YtmchcjaomcdbmaaGreat.Gen
namespace Go.Proofs.YtmchcjaomcdbmaaGreat.Gen
open Go Go.Proofs.YtmchcjaomcdbmaaGreat.Abs Go.RowKit
variable {g:G} {n:Nat}
theorem Qdq (s:St):((encS s).drop 2).take 8=Xl s.data:=by
 show ((Xl s.data++[Value.int .i64 s.used]).take 8)=_
 rw [List.take_left' (Jd _)]
def Has (A:Arr) (m:Int) (s:St):Prop:= ∃i:Nat,A.l[i]? =some s∧s.state≠0∧s.line=m
theorem Has.put {A:Arr} {m line:Int} {k:Nat} {s t:St} (h:Has A m s) (hk: ∀u,A.l[A.from line+k]? =some u→u.state=0∨u.line≠m):Has (A.put line k t) m s:=by
 obtain ⟨i,hi,h0,hm⟩:=h
 refine ⟨i,?_,h0,hm⟩
 show (A.l.set (A.from line+k) t)[i]? =some s
 rw [List.getElem?_set_ne];exact hi
 intro e
 subst e
 rcases hk s hi with e|e
 ·exact h0 e
 ·exact e hm
theorem Has.set {A:Arr} (hok:A.ok) {m line state:Int} {d:Ln} {s:St} (h:Has A m s) (hne:m≠line):Has (A.set line state d).2 m s:=by
 unfold Arr.set
 split
 ·exact h
 ·rename_i hc
  have hl:0≤line:=by omega
  cases ha:A.at line with
  | some k=>
   obtain ⟨t,ht,ht0,htl,_⟩:=Arr.at_some hok ha
   simp only [Option.some_or]
   refine Has.put (A:=A.tick) h (fun u hu=> .inr ?_)
   have:A.l[A.from line+k]? =some u:=hu
   rw [ht] at this;cases this
   rw [htl];exact fun e=>hne e.symm
  | none=>
   simp only [Option.none_or]
   cases hf:A.free line with
   | none=>exact h
   | some k=>
    obtain ⟨t,ht,ht0⟩:=Arr.free_some hok hl hf
    refine Has.put (A:=A.tick) h (fun u hu=> .inl ?_)
    have:A.l[A.from line+k]? =some u:=hu
    rw [ht] at this;cases this
    exact ht0
theorem Has.drop {A:Arr} (hok:A.ok) {m line:Int} {s:St} (h:Has A m s) (hne:m≠line):Has (A.drop line) m s:=by
 unfold Arr.drop
 cases ha:A.at line with
 | none=>exact h
 | some k=>
  obtain ⟨t,ht,ht0,htl,_⟩:=Arr.at_some hok ha
  refine Has.put h (fun u hu=> .inr ?_)
  rw [ht] at hu;cases hu
  rw [htl];exact fun e=>hne e.symm
theorem Has.find {A:Arr} (hok:A.ok) (hw:A.wf) {m:Int} {s:St} (h:Has A m s):A.find m=(s,true)∧(A.at m).isSome=true:=by
 obtain ⟨i,hi,h0,rfl⟩:=h
 have ha:=Arr.at_of hok hw hi h0
 obtain ⟨t,ht,ht0,htl,hst⟩:=Arr.at_some hok ha
 have:=hw.once _ _ _ _ ht hi ht0 h0 (.inl htl)
 rw [this] at ht
 rw [ht] at hi;cases hi
 unfold Arr.find
 rw [ha]
 exact ⟨by show (A.slotAt _ _,true)=_;rw [hst],rfl⟩
def Low (A:Arr):Prop:= ∀s∈A.l,s.state≤3
theorem Low.put {A:Arr} {line:Int} {k:Nat} {t:St} (h:Low A) (ht:t.state≤3):Low (A.put line k t):=by
 intro s hs
 rcases List.mem_or_eq_of_mem_set (show s∈A.l.set (A.from line+k) t from hs) with hs|rfl
 ·exact h s hs
 ·exact ht
theorem Low.set {A:Arr} {line state:Int} {d:Ln} (h:Low A) (hs:state≤3):Low (A.set line state d).2:=by
 unfold Arr.set
 split
 ·exact h
 ·split
  ·exact h
  ·exact Low.put (A:=A.tick) h hs
theorem Low.drop {A:Arr} {line:Int} (h:Low A):Low (A.drop line):=by
 unfold Arr.drop
 split
 ·exact h
 ·exact Low.put h (by decide)
end Go.Proofs.YtmchcjaomcdbmaaGreat.Gen
namespace Go.Proofs.YtmchcjaomcdbmaaGreat.Gen
open Go Go.Proofs.YtmchcjaomcdbmaaGreat.Abs Go.RowKit
theorem Arr.len64 {A:Arr} (hok:A.ok):A.l.length≤64:=by rw [hok.2.2.2.1];exact Arr.small hok
end Go.Proofs.YtmchcjaomcdbmaaGreat.Gen
namespace Go.Proofs.YtmchcjaomcdbmaaGreat.Gen
open Go Go.Proofs.YtmchcjaomcdbmaaGreat.Abs Go.RowKit
variable {g:G} {n:Nat}
theorem XfX {s:St} {K:Nat→G→Nat→Prop} (k: ∀g2,Sub g g2→g n=none→g2 n=some (.cells (encS s) .exact)→K n g2 (n+1)):
  Zw (encS J4) .exact g n fun l g1 n1=>Jl (.agg (encS s).toArray) fun cg=>cg.length=11∧Xw g1 l 0 cg fun g2=>K l g2 n1:=by
 intro hn
 simp only [Qf]
 refine ⟨Jg _,XB (Xa _ _ _) rfl (by rw [Jg,Jg];decide) (Jad _) ?_⟩
 rw [Xv (by rw [Jg,Jg])]
 exact k _ (((Sub.refl g).new hn _).upd_fresh _ hn) hn (Xa _ _ _)
theorem JgM {K:Nat→G→Nat→Prop} (k: ∀g2,Sub g g2→g n=none→g2 n=some (.cells (encS J4) .exact)→K n g2 (n+1)):Zw (encS J4) .exact g n K:=
 fun hn=>k _ ((Sub.refl g).new hn _) hn (Xa _ _ _)
structure Ms where
 kind:Int
 line:Int
 dirty:Bool
 kept:Bool
 data:Ln
 deriving DecidableEq
def Xi (m:Ms):List Value:=[.int .i64 m.kind,.int .i64 m.line,.bool m.dirty,.bool m.kept]++Xl m.data
theorem Qh (m:Ms):(Xi m).length=12:=by simp [Xi,Jd]
theorem XbN (m:Ms): ∀v∈Xi m,isCell v=true:=by
 intro v hv
 simp only [Xi,List.mem_append,List.mem_cons,List.not_mem_nil,or_false] at hv
 rcases hv with (rfl|rfl|rfl|rfl)|h
 ·rfl
 ·rfl
 ·rfl
 ·rfl
 ·exact QG _ v h
def Xh:Ms:=⟨0,0,false,false,zeroL⟩
theorem ZeR (m:Ms):((Xi m).drop 4).take 8=Xl m.data:=by
 show (Xl m.data).take 8=_
 rw [List.take_of_length_le (by rw [Jd];exact Nat.le_refl _)]
theorem ZgC {l:Nat} {m:Ms} {bk:BK} {K:List Value→Prop} (h:g l=some (.cells (Xi m) bk)) (k:K (Xl m.data)):Zn g l (0+4) 8 K:=by
 refine Ju h (by rw [Qh];decide) ?_
 rw [Nat.zero_add,ZeR];exact k
theorem ldM {l:Nat} {m:Ms} {bk:BK} {K:List Value→Prop} (h:g l=some (.cells (Xi m) bk)) (k:K (Xi m)):Zn g l 0 12 K:=by
 refine Ju h (by rw [Qh];decide) ?_
 rw [List.drop_zero,List.take_of_length_le (by rw [Qh];exact Nat.le_refl _)];exact k
theorem Xf3 {l:Nat} {s:St} {bk:BK} {K:List Value→Prop} (h:g l=some (.cells (encS s) bk)) (k:K (Xl s.data)):Zn g l (0+2) 8 K:=by
 refine Ju h (by rw [Jg];decide) ?_
 rw [Nat.zero_add,Qdq];exact k
theorem Qfr {l:Nat} {s:St} {bk:BK} {K:Value→Prop} (h:g l=some (.cells (encS s) bk)) (k:K (.int .i64 s.state)):kLd g l (0+0) K:=Qb h (Zd5 s) k
theorem XgM {l:Nat} {s:St} {bk:BK} {K:Value→Prop} (h:g l=some (.cells (encS s) bk)) (k:K (.int .i64 s.line)):kLd g l (0+1) K:=Qb h (XeX s) k
theorem ZgA {m:Ms} {K:Nat→G→Nat→Prop} (k: ∀g2,Sub g g2→g n=none→g2 n=some (.cells (Xi m) .exact)→K n g2 (n+1)):
  Zw (Xi Xh) .exact g n fun l g1 n1=>Jl (.agg (Xi m).toArray) fun cg=>cg.length=12∧Xw g1 l 0 cg fun g2=>K l g2 n1:=by
 intro hn
 simp only [Qf]
 refine ⟨Qh _,XB (Xa _ _ _) rfl (by rw [Qh,Qh];decide) (XbN _) ?_⟩
 rw [Xv (by rw [Qh,Qh])]
 exact k _ (((Sub.refl g).new hn _).upd_fresh _ hn) hn (Xa _ _ _)
theorem Xdg {a b:Int} {K:List Value→Prop} (k:K (Xi ⟨a,b,false,false,zeroL⟩)):Xk (Xi Xh) [(0,none,.int .i64 a),(1,none,.int .i64 b)] K:=⟨rfl,by rw [Qh];decide,rfl,by rw [List.length_set,Qh];decide,k⟩
theorem XfJ {b:Int} {K:List Value→Prop} (k:K (Xi ⟨0,b,false,false,zeroL⟩)):Xk (Xi Xh) [(1,none,.int .i64 b)] K:=⟨rfl,by rw [Qh];decide,k⟩
theorem Xc7 {m:Ms} {K:List Value→Prop} (k:K (Xi m)):Xk (reps 1 (Xi Xh)) [(0,some 12,.agg (Xi m).toArray)] K:=by
 refine ⟨Qh m,by rw [show (reps 1 (Xi Xh)).length=12 from rfl];decide,?_⟩
 have:splice (reps 1 (Xi Xh)) 0 (Xi m)=Xi m:=Xv (by rw [Qh];rfl)
 rw [this];exact k
theorem Zgz {l:Nat} {m:Ms} {d:Ln} {K:G→Prop} (h:g l=some (.cells (Xi m) .exact)) (k:K (upd g l (some (.cells (Xi { m with data:=d }) .exact)))):Xw g l (0+4) (Xl d) K:=by
 refine XB h rfl (by rw [Qh,Jd];decide) (QG _) ?_
 have e:splice (Xi m) (0+4) (Xl d)=Xi { m with data:=d }:=by
  unfold splice Xi
  rw [Jd]
  show [_,_,_,_]++Xl d++(Xl m.data).drop 8=_
  rw [List.drop_of_length_le (by rw [Jd];exact Nat.le_refl _),List.append_nil]
 rw [e]
 exact k
structure AgH (g:G) (lg la ls:Nat) (A:Arr):Prop where
 obj:g lg=some (.cells [ptr la 0] .exact)
 arr:ArrH g la ls A
 n1:lg≠la
 n2:lg≠ls
theorem AgH.mono {g':G} {lg la ls:Nat} {A:Arr} (h:AgH g lg la ls A) (hs:Sub g g'):AgH g' lg la ls A:=⟨hs.live h.obj,h.arr.mono hs,h.n1,h.n2⟩
theorem AgH.next {g':G} {lg la ls:Nat} {A A':Arr} (h:AgH g lg la ls A) (hs:Sub (hide g la ls) g') (ha:ArrH g' la ls A'):AgH g' lg la ls A':=
 ⟨hs.live (ZN h.n1 h.n2 h.obj),ha,h.n1,h.n2⟩
theorem ldA {lg la ls:Nat} {A:Arr} (h:AgH g lg la ls A) {K:Value→Prop} (k:K (ptr la 0)):kLd g lg (0+0) K:=Qb h.obj rfl k
def Arr.slot (A:Arr) (line:Int):St:=(A.find line).1
def isW (a b:Int):Bool:=decide (0≤a∧a<64∧0≤b∧b<8)
def Qer (s:St):Bool:=decide (0≤s.state∧s.state≤3)
def Arr.idle (A:Arr):Bool:=(A.slots.findIdx? fun s=> !Qer s).isNone
def Arr.owns (A:Arr) (line:Int):Bool:=decide ((A.slot line).state=2∨(A.slot line).state=3)
theorem XdR {a b:Int} {K:Cont} (hK: ∀n',K (.bool (isW a b)) g n'):AC JaE [.int .i64 a,.int .i64 b] g n K:=by
 refine ACalls.fold Jb ?_
 rw [←XdY]
 simp only [Zed,QK,Jj,Jf,decide_eq_true_eq,decide_eq_false_iff_not]
 have no: ¬(0≤a∧a<64∧0≤b∧b<8)→Qc K (.bool false) g n:=fun h=>by
  have k:=hK n
  unfold isW at k
  rw [decide_eq_false h] at k
  exact Ja (Sub.refl _) k
 refine ⟨fun h1=>⟨fun h2=>⟨fun h3=>Ja (Sub.refl _) ?_,fun h3=>no (by omega)⟩,fun h2=>no (by omega)⟩,fun h1=>no (by omega)⟩
 have k:=hK n
 unfold isW at k
 rw [show decide (0≤a∧a<64∧0≤b∧b<8)=decide (b<8) from by rw [decide_eq_decide];omega] at k
 exact k
theorem find_spec {A:Arr} {lg la ls:Nat} {line:Int} (hok:A.ok) (hh:AgH g lg la ls A) {K:Cont} (hK: ∀n',K (.agg (encS (A.slot line)).toArray) g n'):AC Ql [ptr lg 0,.int .i64 line] g n K:=by
 refine ACalls.fold Jb ?_
 rw [←QbC]
 simp only [Za8,Zf,Zc]
 refine JgM (fun g1 hs hn hl4=> ?_)
 have hh1:=hh.mono hs
 refine ldA hh1 (Zfh hok hh1.arr (fun n2=> ?_))
 simp only [Zm,Jq,Qr]
 refine XfX (s:=A.slot line) (fun g2 hs2 hn2 hl5=> ?_)
 refine ldS hl5 ?_
 simp only [Qf]
 refine ⟨Jg _,XB (hs2.live hl4) rfl (by rw [Jg,Jg];decide) (Jad _) ?_⟩
 rw [Xv (by rw [Jg,Jg])]
 refine ldS (x:=A.slot line) (Xa _ _ _) ?_
 exact Ja ((hs.trans hs2).upd_fresh _ hn) (hK _)
theorem QdB {A:Arr} {lg la ls:Nat} {line:Int} (hok:A.ok) (hh:AgH g lg la ls A) {K:Cont} (hK: ∀n',K (.bool (A.owns line)) g n'):AC XU [ptr lg 0,.int .i64 line] g n K:=by
 refine ACalls.fold Jb ?_
 rw [←QbH]
 simp only [Qba,Zp]
 refine Zd rfl (find_spec hok hh (fun n1=>XfX (s:=A.slot line) (fun g2 hs2 _ hl=> ?_)))
 refine Qfr hl ?_
 simp only [Qw,Jf,decide_eq_true_eq,decide_eq_false_iff_not]
 have k:=hK (n1+1)
 unfold Arr.owns at k
 refine ⟨fun h=>Ja hs2 ?_,fun h=>Qfr hl ?_⟩
 ·rw [decide_eq_true (.inl h)] at k;exact k
 ·rw [show decide ((A.slot line).state=2∨(A.slot line).state=3)=decide ((A.slot line).state=3) from by rw [decide_eq_decide];omega] at k
  simp only [Qw]
  exact Ja hs2 k
theorem Zdi {A:Arr} {lg la ls:Nat} (hok:A.ok) (hh:AgH g lg la ls A) {K:Cont} (hK: ∀v' g' n',Sub g g'→Sl encS 11 g' v' A.slots→(∀l,QaH v'=some l→g l=none)→K v' g' n'):AC Zab [ptr lg 0] g n K:=by
 refine ACalls.fold Jb ?_
 rw [←Qbv]
 simp only [XaR,Zp,Zf,Zc]
 exact Zd rfl (ldA hh (Qcu hok hh.arr (fun v' g' n' h1 h2 h3=>Ja (Sub.refl _) (hK _ _ _ h1 h2 h3))))
theorem Qgt {A:Arr} (hok:A.ok):A.slots.length≤64:=by
 have:=List.length_filter_le (fun s:St=> !decide (s.state=0)) A.l
 have:=Arr.len64 hok
 unfold Arr.slots;omega
theorem XeB {x:Int} {K:Cont} (hK: ∀n',K (.bool (decide (0≤x∧x≤3))) g n'):AC XaM [.int .i64 x] g n K:=by
 refine ACalls.fold Jb ?_
 rw [←JcO]
 simp only [JcK,QK,Xdh,Jf,decide_eq_true_eq,decide_eq_false_iff_not]
 refine ⟨fun h=>Ja (Sub.refl _) ?_,fun h=>Ja (Sub.refl _) ?_⟩
 ·have k:=hK n
  rw [show decide (0≤x∧x≤3)=decide (x≤3) from by rw [decide_eq_decide];omega] at k
  exact k
 ·have k:=hK n
  rw [decide_eq_false (by omega)] at k
  exact k
theorem XeF {e:St} {K:Cont} (hK: ∀n',K (.bool (!Qer e)) g n'):AC X4 [.agg (encS e).toArray] g n K:=by
 refine ACalls.fold Jb ?_
 rw [←Qbi]
 simp only [ZaK,Qf]
 intro hn
 refine Qfr (s:=e) (Xa _ _ _) ?_
 refine XeB (fun n2=> ?_)
 simp only [Jaw]
 exact Ja ((Sub.refl g).new hn _) (hK _)
theorem ZdI {A:Arr} {lg la ls:Nat} (hok:A.ok) (hh:AgH g lg la ls A) {K:Cont} (hK: ∀n',K (.bool A.idle) g n'):AC ZV [ptr lg 0] g n K:=by
 refine ACalls.fold Jb ?_
 rw [←XbE]
 simp only [Xa9,Zp,Zf,Zc]
 refine Zd rfl (ldA hh (ZeD hok hh.arr (fun v1 g1 n1 hs1 h1=> ?_)))
 refine ACalls.fold Jb ?_
 rw [←XR]
 simp only [QA]
 refine JS (fun s=> !Qer s) h1 (fun g' n' e K' hs' hK'=> ?_) (by have:=Qgt hok;omega) (fun n2=> ?_)
 ·simp only [Zdf]
  exact XeF hK'
 ·have k:=hK n2
  unfold Arr.idle at k
  revert k
  cases (A.slots.findIdx? fun s=> !Qer s) with
  | none=>intro k;simp only [Qdl,QK];exact Ja (Sub.refl _) (Ja hs1 k)
  | some i=>intro k;simp only [Qdl,QK];exact Ja (Sub.refl _) (by rw [decide_eq_true (by omega)];exact Ja hs1 k)
end Go.Proofs.YtmchcjaomcdbmaaGreat.Gen
namespace Go.Proofs.YtmchcjaomcdbmaaGreat.Gen
open Go Go.Proofs.YtmchcjaomcdbmaaGreat.Abs Go.RowKit
variable {g:G} {n:Nat}
structure Out (g g':G) (lg la ls:Nat) (A:Arr) (v:Value) (ms:List Ms):Prop where
 hs:Sub (hide g la ls) g'
 ag:AgH g' lg la ls A
 sl:Sl Xi 12 g' v ms
 fr: ∀l,QaH v=some l→g l=none
theorem Out.of {g0 g g':G} {lg la ls:Nat} {A:Arr} {v:Value} {ms:List Ms} (h:Out g g' lg la ls A v ms) (hs:Sub g0 g):Out g0 g' lg la ls A v ms:=
 ⟨(JaG hs).trans h.hs,h.ag,h.sl,fun l hl=>hs.none (h.fr l hl)⟩
theorem Out.nil {lg la ls:Nat} {A:Arr} (h:AgH g lg la ls A):Out g g lg la ls A (.slice none 0 0) []:=⟨Za2 _ _ _,h,Sl.nil,fun l hl=>nomatch hl⟩
theorem Out.one {g g5 g6:G} {m:Nat} {lg la ls:Nat} {A A':Arr} {ms:Ms} (h:AgH g lg la ls A) (hs:Sub g g5) (hs6:Sub (hide g5 la ls) g6) (hh6:ArrH g6 la ls A') (hn:g6 m=none):
  Out g (upd g6 m (some (.cells (Xi ms) .exact))) lg la ls A' (.slice (some ⟨m,0,none⟩) 1 1) [ms]:=by
 have hs7:=(Sub.refl g6).new hn (some (.cells (Xi ms) .exact))
 have h5:=h.mono hs
 have n1:=Zl hh6.obj hn
 have n2:=Zl hh6.row hn
 refine ⟨((JaG hs).trans hs6).trans hs7,(h5.next hs6 hh6).mono hs7,Sl.one (Qh _) (Xa _ _ _),fun l hl=> ?_⟩
 cases hl
 cases hgm:g m with
 | none=>rfl
 | some b=>
  have:=hs6.live (ZN n1 n2 (hs.live hgm))
  rw [hn] at this;cases this
def QbL (s:St):Ms:=⟨3,s.line,decide (s.state=3),false,if s.state=3 then s.data else zeroL⟩
def QcN (s:St):Int:=if s.state=3 then 9 else 7
def Arr.out (A:Arr) (s:St):List Ms×Arr:=([QbL s],(A.set s.line (QcN s) s.data).2)
theorem Zd7 {A:Arr} {lg la ls:Nat} {s:St} (hok:A.ok) (hu:A.used<100000) (hh:AgH g lg la ls A) {K:Cont} (hK: ∀v' g' n',Out g g' lg la ls (A.out s).2 v' (A.out s).1→K v' g' n'):
  AC JN [ptr lg 0,.agg (encS s).toArray] g n K:=by
 refine ACalls.fold Jb ?_
 rw [←XbR]
 simp only [Qbm,Qf]
 intro hn
 have hs1:=(Sub.refl g).new hn (some (.cells (encS s) .exact))
 have hl3:=Xa g n (some (.cells (encS s) .exact))
 generalize upd g n (some (.cells (encS s) .exact))=g1 at*
 refine XgM hl3 (Xdg (ZgA (fun g3 hs3 hn5 hl5=> ?_)))
 have hsg:=hs1.trans hs3
 have hl3':=hs3.live hl3
 have hne:n+1≠n:=by omega
 have j1: ∀(t:Env) (g5:G) (n5:Nat),Sub g g5→g5 n=some (.cells (encS s) .exact)→g5 (n+1)=some (.cells (Xi (QbL s)) .exact)→t 0=ptr lg 0→t 3=ptr n 0→t 5=ptr (n+1) 0→t 6= .int .i64 (QcN s)→XZ AC K t g5 n5:=by
  intro t g5 n5 hs5 hl3 hl5 t0 t3 t5 t6
  have hh5:=hh.mono hs5
  simp only [XZ,t0,t3,t5,t6,Zf,Zc]
  refine ldA hh5 (XgM hl3 (Xf3 hl3 ?_))
  refine Jck (d:=s.data) hok hu hh5.arr (fun g6 n6 hs6 hh6=> ?_)
  have hla:=Zl hh.arr.obj (hs1.none hn5)
  have hls:=Zl hh.arr.row (hs1.none hn5)
  refine ldM (hs6.live (ZN hla hls hl5)) (Xc7 ?_)
  intro hn7
  exact Ja (Sub.refl _) (hK _ _ _ (Out.one hh hs5 hs6 hh6 hn7))
 refine Qfr hl3' ?_
 simp only [Qw,Jf,decide_eq_true_eq,decide_eq_false_iff_not]
 have hng:g (n+1)=none:=hs1.none hn5
 refine ⟨fun h3=> ?_,fun h3=> ?_⟩
 ·refine Xf3 hl3' ?_
  refine ZR hl5 rfl (by rw [Qh];decide) rfl ?_
  refine ⟨Xc _ _ (fun e=>hne e.symm),Jd _,?_⟩
  refine Zgz (m:=⟨3,s.line,true,false,zeroL⟩) (Xa _ _ _) ?_
  refine j1 _ _ _ ((hsg.upd_fresh _ hng).upd_fresh _ hng) ?_ ?_ rfl rfl rfl ?_
  ·rw [Xc _ _ (fun e=>hne e.symm),Xc _ _ (fun e=>hne e.symm)];exact hl3'
  ·rw [Xa];unfold QbL;rw [decide_eq_true h3,if_pos h3]
  ·unfold QcN;rw [if_pos h3];rfl
 ·refine j1 _ _ _ hsg hl3' ?_ rfl rfl rfl ?_
  ·rw [hl5];unfold QbL;rw [decide_eq_false h3,if_neg h3]
  ·unfold QcN;rw [if_neg h3];rfl
def Arr.ask (A:Arr) (line state kind:Int) (d:Ln):List Ms×Arr:=
 if A.idle=false then ([],A) else
 if state≠6∧(A.room line).1=false then (if (A.room line).2<0 then ([],A) else A.out (A.slot (A.room line).2))
 else ([⟨kind,line,false,false,zeroL⟩],(A.set line state d).2)
theorem Jdi {A:Arr} {lg la ls:Nat} {line state kind:Int} {d:Ln} (hok:A.ok) (hu:A.used<100000) (hh:AgH g lg la ls A) {K:Cont}
  (hK: ∀v' g' n',Out g g' lg la ls (A.ask line state kind d).2 v' (A.ask line state kind d).1→K v' g' n'):
  AC QM [ptr lg 0,.int .i64 line,.int .i64 state,.int .i64 kind,.agg (Xl d).toArray] g n K:=by
 refine ACalls.fold Jb ?_
 rw [←ZbT]
 simp only [Xbj,Qf]
 intro hn
 have hs1:=(Sub.refl g).new hn (some (.cells (Xl d) .exact))
 have hl9:=Xa g n (some (.cells (Xl d) .exact))
 generalize upd g n (some (.cells (Xl d) .exact))=g1 at*
 have hh1:=hh.mono hs1
 refine ZdI hok hh1 (fun n2=> ?_)
 simp only [Jaw,Jf,Bool.not_eq_true',Bool.not_eq_false']
 refine ⟨fun hi=> ?_,fun hi=> ?_⟩
 ·have e:A.ask line state kind d=([],A):=by unfold Arr.ask;rw [if_pos hi]
  rw [e] at hK
  exact Ja (Sub.refl _) (hK _ _ _ ((Out.nil hh1).of hs1))
 have hi': ¬A.idle=false:=by rw [hi];decide
 have j1: ∀(t:Env) (m:Nat),¬(state≠6∧(A.room line).1=false)→t 0=ptr lg 0→t 1= .int .i64 line→t 2= .int .i64 state→t 3= .int .i64 kind→t 9=ptr n 0→QN AC K t g1 m:=by
  intro t m hc t0 t1 t2 t3 t9
  have e:A.ask line state kind d=([⟨kind,line,false,false,zeroL⟩],(A.set line state d).2):=by unfold Arr.ask;rw [if_neg hi',if_neg hc]
  rw [e] at hK
  simp only [QN,t0,t1,t2,t3,t9,Zf,Zc]
  refine ldA hh1 (ldL hl9 ?_)
  refine Jck (d:=d) hok hu hh1.arr (fun g6 n6 hs6 hh6=>Xdg (Xc7 ?_))
  intro hn7
  exact Ja (Sub.refl _) (hK _ _ _ (Out.one hh hs1 hs6 hh6 hn7))
 simp only [Jam,Jf,decide_eq_true_eq,decide_eq_false_iff_not]
 refine ⟨fun h6=> ?_,fun h6=>j1 _ _ (fun h=>h6 h.1) rfl rfl rfl rfl rfl⟩
 simp only [Zf,Zc]
 refine ldA hh1 (Jfb hok hh1.arr (fun n3=> ?_))
 simp only [Zm,Jq,Qr,Jaw,Jf,Bool.not_eq_true',Bool.not_eq_false',Jj,decide_eq_true_eq,decide_eq_false_iff_not]
 refine ⟨fun hf=>⟨fun hv=> ?_,fun hv=>⟨fun _=> ?_,fun h=>(by rw [hf] at h;cases h)⟩⟩,fun hf=>⟨fun h=>(by rw [hf] at h;cases h),fun _=>j1 _ _ (fun h=>(by rw [hf] at h;exact absurd h.2 (by decide))) rfl rfl rfl rfl rfl⟩⟩
 ·have e:A.ask line state kind d=([],A):=by unfold Arr.ask;rw [if_neg hi',if_pos ⟨h6,hf⟩,if_pos hv]
  rw [e] at hK
  exact Ja (Sub.refl _) (hK _ _ _ ((Out.nil hh1).of hs1))
 ·have e:A.ask line state kind d=A.out (A.slot (A.room line).2):=by unfold Arr.ask;rw [if_neg hi',if_pos ⟨h6,hf⟩,if_neg hv]
  rw [e] at hK
  refine find_spec hok hh1 (fun n4=> ?_)
  exact Zd7 hok hu hh1 (fun v' g' n' ho=>Ja (Sub.refl _) (hK _ _ _ (ho.of hs1)))
end Go.Proofs.YtmchcjaomcdbmaaGreat.Gen
namespace Go.Proofs.YtmchcjaomcdbmaaGreat.Gen
open Go Go.Proofs.YtmchcjaomcdbmaaGreat.Abs Go.RowKit
variable {g:G} {n:Nat}
def QaX (d:Ln) (w:Int):Int:=d.1.getD w.toNat 0
theorem Xgk (s:St) {w:Nat} (hw:w<8):(encS s)[2+w]? =some (.int .u64 (s.data.1.getD w 0)):=by
 have h1:((encS s).drop 2).take 8=Xl s.data:=Qdq s
 have h2:(((encS s).drop 2).take 8)[w]? =(encS s)[2+w]? :=by rw [List.getElem?_take,if_pos hw,List.getElem?_drop]
 rw [←h2,h1]
 have h3:=s.data.2
 unfold Xl
 rw [List.getElem?_map,List.getElem?_eq_getElem (by omega),List.getD_eq_getElem?_getD,List.getElem?_eq_getElem (by omega)]
 rfl
def Jfr (s:St):Bool:=decide (s.state=1∨s.state=2∨s.state=3∨s.state=6)
def Arr.loadHit (A:Arr) (line word:Int):Bool:=isW line word&&Jfr (A.slot line)
def Arr.loadV (A:Arr) (line word:Int):Int:=if A.loadHit line word then QaX (A.slot line).data word else 0
def Arr.load (A:Arr) (line word:Int):List Ms×Arr:=
 if isW line word=false then ([],A) else if A.loadHit line word then ([],A.touch line) else A.ask line 4 1 zeroL
theorem Ze0 {A:Arr} {lg la ls:Nat} {line word:Int} (hok:A.ok) (hu:A.used<100000) (hh:AgH g lg la ls A) {K:Cont}
  (hK: ∀v' g' n',Out g g' lg la ls (A.load line word).2 v' (A.load line word).1→K (.tuple #[.int .u64 (A.loadV line word),.bool (A.loadHit line word),v']) g' n'):
  AC Zai [ptr lg 0,.int .i64 line,.int .i64 word] g n K:=by
 refine ACalls.fold Jb ?_
 rw [←XbC]
 simp only [Ja6,Zp]
 refine Zd rfl (XdR (fun n1=> ?_))
 simp only [Jaw,Jf,Bool.not_eq_true',Bool.not_eq_false']
 refine ⟨fun hi=> ?_,fun hi=> ?_⟩
 ·have e0:A.loadHit line word=false:=by unfold Arr.loadHit;rw [hi];rfl
  have e1:A.loadV line word=0:=by unfold Arr.loadV;rw [e0];rfl
  have e2:A.load line word=([],A):=by unfold Arr.load;rw [if_pos hi]
  rw [e0,e1,e2] at hK
  exact Ja (Sub.refl _) (hK _ _ _ (Out.nil hh))
 have hw:0≤word∧word<8:=by
  have:=of_decide_eq_true (show isW line word=true from hi);omega
 refine find_spec hok hh (fun n2=>XfX (s:=A.slot line) (fun g4 hs4 hn4 hl9=> ?_))
 have hh4:=hh.mono hs4
 have j2: ∀(t:Env) (m:Nat),Jfr (A.slot line)=false→t 0=ptr lg 0→t 1= .int .i64 line→Qai AC K t g4 m:=by
  intro t m hb t0 t1
  have e0:A.loadHit line word=false:=by unfold Arr.loadHit;rw [hb,Bool.and_false]
  have e1:A.loadV line word=0:=by unfold Arr.loadV;rw [e0];rfl
  have e2:A.load line word=A.ask line 4 1 zeroL:=by unfold Arr.load;rw [if_neg (by rw [hi];decide),e0];rfl
  rw [e0,e1,e2] at hK
  simp only [Qai,t0,t1,Jz]
  exact Jdi (d:=zeroL) hok hu hh4 (fun v' g' n' ho=>Ja (Sub.refl _) (hK _ _ _ (ho.of hs4)))
 have j1: ∀(t:Env) (m:Nat),t 23= .bool (Jfr (A.slot line))→t 0=ptr lg 0→t 1= .int .i64 line→t 2= .int .i64 word→t 9=ptr n2 0→JA AC K t g4 m:=by
  intro t m t23 t0 t1 t2 t9
  simp only [JA,t23,t0,t1,t2,t9,Jf,Zf,Zc]
  refine ⟨fun hb=> ?_,fun hb=>j2 _ _ hb t0 t1⟩
  have e0:A.loadHit line word=true:=by unfold Arr.loadHit;rw [hb,hi];rfl
  have e1:A.loadV line word=QaX (A.slot line).data word:=by unfold Arr.loadV;rw [e0];rfl
  have e2:A.load line word=([],A.touch line):=by unfold Arr.load;rw [if_neg (by rw [hi];decide),e0];rfl
  rw [e0,e1,e2] at hK
  refine ldA hh4 (XeH hok hu hh4.arr (fun g5 n5 hs5 hh5=> ?_))
  refine ⟨hw.1,hw.2,?_⟩
  simp only [Zc]
  have hl9':=hs5.live (ZN (Zl hh.arr.obj hn4) (Zl hh.arr.row hn4) hl9)
  refine Qb hl9' (v:= .int .u64 (QaX (A.slot line).data word)) ?_ ?_
  ·rw [show 0+2+word.toNat*1=2+word.toNat by omega]
   exact Xgk _ (by omega)
  ·refine Ja (Sub.refl _) (hK _ _ _ ?_)
   exact ⟨(JaG hs4).trans hs5,hh4.next hs5 hh5,Sl.nil,fun l hl=>nomatch hl⟩
 refine Qfr hl9 ?_
 simp only [Qw,Jf,decide_eq_true_eq,decide_eq_false_iff_not]
 have hb: ∀{p:Prop} [Decidable p],(p↔Jfr (A.slot line)=true)→decide p=Jfr (A.slot line):=fun h=>by rw [Bool.eq_iff_iff,decide_eq_true_eq];exact h
 have hit:Jfr (A.slot line)=true↔(A.slot line).state=1∨(A.slot line).state=2∨(A.slot line).state=3∨(A.slot line).state=6:=by unfold Jfr;rw [decide_eq_true_eq]
 refine ⟨fun h1=>j1 _ _ ?_ rfl rfl rfl rfl,fun h1=>⟨fun h2=>j1 _ _ ?_ rfl rfl rfl rfl,fun h2=>⟨fun h3=>j1 _ _ ?_ rfl rfl rfl rfl,fun h3=>j1 _ _ ?_ rfl rfl rfl rfl⟩⟩⟩
 ·show Value.bool (decide _)=_
  rw [hb (by rw [hit];omega)]
 ·show Value.bool (decide _)=_
  rw [hb (by rw [hit];omega)]
 ·show Value.bool (decide _)=_
  rw [hb (by rw [hit];omega)]
 ·show Value.bool (decide _)=_
  rw [hb (by rw [hit];omega)]
def Arr.reach (A:Arr) (line:Int):List Ms×Arr:=
 if isW line 0=false∨A.owns line=true then ([],A) else
 if (A.slot line).state=1 then A.ask line 6 2 (A.slot line).data else A.ask line 5 2 zeroL
theorem JeC {A:Arr} {lg la ls:Nat} {line:Int} (hok:A.ok) (hu:A.used<100000) (hh:AgH g lg la ls A) {K:Cont}
  (hK: ∀v' g' n',Out g g' lg la ls (A.reach line).2 v' (A.reach line).1→K v' g' n'):
  AC Xaa [ptr lg 0,.int .i64 line] g n K:=by
 refine ACalls.fold Jb ?_
 rw [←Zby]
 simp only [XaU,Zp]
 refine Zd rfl (XdR (fun n1=> ?_))
 simp only [Jaw,Jf,Bool.not_eq_true',Bool.not_eq_false']
 refine ⟨fun hi=> ?_,fun hi=>QdB hok hh (fun n2=> ?_)⟩
 ·have e:A.reach line=([],A):=by unfold Arr.reach;rw [if_pos (.inl hi)]
  rw [e] at hK
  exact Ja (Sub.refl _) (hK _ _ _ (Out.nil hh))
 simp only [Jf]
 refine ⟨fun ho=> ?_,fun ho=> ?_⟩
 ·have e:A.reach line=([],A):=by unfold Arr.reach;rw [if_pos (.inr ho)]
  rw [e] at hK
  exact Ja (Sub.refl _) (hK _ _ _ (Out.nil hh))
 have hc: ¬(isW line 0=false∨A.owns line=true):=by rw [hi,ho];decide
 refine find_spec hok hh (fun n3=>XfX (s:=A.slot line) (fun g4 hs4 hn4 hl=> ?_))
 have hh4:=hh.mono hs4
 refine Qfr hl ?_
 simp only [Qw,Jf,decide_eq_true_eq,decide_eq_false_iff_not]
 refine ⟨fun h1=> ?_,fun h1=> ?_⟩
 ·have e:A.reach line=A.ask line 6 2 (A.slot line).data:=by unfold Arr.reach;rw [if_neg hc,if_pos h1]
  rw [e] at hK
  refine Xf3 hl ?_
  exact Jdi (d:=(A.slot line).data) hok hu hh4 (fun v' g' n' ho=>Ja (Sub.refl _) (hK _ _ _ (ho.of hs4)))
 ·have e:A.reach line=A.ask line 5 2 zeroL:=by unfold Arr.reach;rw [if_neg hc,if_neg h1]
  rw [e] at hK
  simp only [Jz]
  exact Jdi (d:=zeroL) hok hu hh4 (fun v' g' n' ho=>Ja (Sub.refl _) (hK _ _ _ (ho.of hs4)))
def Arr.storeHit (A:Arr) (line word:Int):Bool:=isW line word&&A.owns line
def Arr.store (A:Arr) (line word v:Int):List Ms×Arr:=
 if isW line word=false then ([],A) else if A.owns line=false then A.reach line else ([],(A.set line 3 ((A.slot line).data.put word.toNat v)).2)
theorem ZgN {l:Nat} {s:St} {w:Int} {v:Int} {K:Value→Nat→Nat→G→Prop} (hw:0≤w∧w<8) (h:g l=some (.cells (encS s) .exact))
  (k: ∀p l' o,K p l' o (upd g l (some (.cells (encS { s with data:=s.data.put w.toNat v }) .exact)))):
  ZD (ptr l (0+2)) (.int .i64 w) 8 1 fun p=>Qe p fun l' o=>kSt g l' o (.int .u64 v) (K p l' o):=by
 refine ⟨hw.1,hw.2,?_⟩
 simp only [Zc]
 refine ZR h rfl (by rw [Jg];omega) rfl ?_
 have e:(encS s).set (0+2+w.toNat*1) (.int .u64 v)=encS { s with data:=s.data.put w.toNat v }:=by
  rw [show 0+2+w.toNat*1=w.toNat+2 by omega]
  show ([_,_]++Xl s.data++[_]).set (w.toNat+2) _=[_,_]++Xl (s.data.put w.toNat v)++[_]
  have h8:=s.data.2
  have e1:(Xl s.data).set w.toNat (.int .u64 v)=Xl (s.data.put w.toNat v):=by simp [Xl,Ln.put,List.map_set]
  rw [←e1]
  simp only [List.cons_append,List.nil_append,List.set_cons_succ]
  rw [List.set_append,if_pos (by rw [Jd];omega)]
 rw [e]
 exact k _ _ _
theorem Zer {A:Arr} {lg la ls:Nat} {line word v:Int} (hok:A.ok) (hu:A.used<100000) (hh:AgH g lg la ls A) {K:Cont}
  (hK: ∀v' g' n',Out g g' lg la ls (A.store line word v).2 v' (A.store line word v).1→K (.tuple #[.bool (A.storeHit line word),v']) g' n'):
  AC Xab [ptr lg 0,.int .i64 line,.int .i64 word,.int .u64 v] g n K:=by
 refine ACalls.fold Jb ?_
 rw [←Xbw]
 simp only [JaU,Zp]
 refine Zd rfl (XdR (fun n1=> ?_))
 simp only [Jaw,Jf,Bool.not_eq_true',Bool.not_eq_false']
 refine ⟨fun hi=> ?_,fun hi=> ?_⟩
 ·have e0:A.storeHit line word=false:=by unfold Arr.storeHit;rw [hi];rfl
  have e:A.store line word v=([],A):=by unfold Arr.store;rw [if_pos hi]
  rw [e0,e] at hK
  exact Ja (Sub.refl _) (hK _ _ _ (Out.nil hh))
 have hw:0≤word∧word<8:=by
  have:=of_decide_eq_true (show isW line word=true from hi);omega
 have hi': ¬isW line word=false:=by rw [hi];decide
 refine QdB hok hh (fun n2=> ?_)
 simp only [Jaw,Jf,Bool.not_eq_true',Bool.not_eq_false']
 refine ⟨fun ho=> ?_,fun ho=> ?_⟩
 ·have e0:A.storeHit line word=false:=by unfold Arr.storeHit;rw [ho,Bool.and_false]
  have e:A.store line word v=A.reach line:=by unfold Arr.store;rw [if_neg hi',if_pos ho]
  rw [e0,e] at hK
  exact JeC hok hu hh (fun v' g' n' h=>Ja (Sub.refl _) (hK _ _ _ h))
 ·have e0:A.storeHit line word=true:=by unfold Arr.storeHit;rw [ho,hi];rfl
  have e:A.store line word v=([],(A.set line 3 ((A.slot line).data.put word.toNat v)).2):=by unfold Arr.store;rw [if_neg hi',if_neg (by rw [ho];decide)]
  rw [e0,e] at hK
  refine find_spec hok hh (fun n3=>XfX (s:=A.slot line) (fun g4 hs4 hn4 hl=> ?_))
  refine ZgN hw hl (fun _ _ _=> ?_)
  have hs7:=hs4.upd_fresh (some (.cells (encS { A.slot line with data:=(A.slot line).data.put word.toNat v }) .exact)) hn4
  have hl7:=Xa g4 n3 (some (.cells (encS { A.slot line with data:=(A.slot line).data.put word.toNat v }) .exact))
  generalize upd g4 n3 (some (.cells (encS { A.slot line with data:=(A.slot line).data.put word.toNat v }) .exact))=g7 at*
  have hh7:=hh.mono hs7
  simp only [Zf,Zc]
  refine ldA hh7 (Xf3 hl7 ?_)
  refine Jck (d:=(A.slot line).data.put word.toNat v) hok hu hh7.arr (fun g8 n8 hs8 hh8=> ?_)
  refine Ja (Sub.refl _) (hK _ _ _ ?_)
  exact ⟨(JaG hs7).trans hs8,hh7.next hs8 hh8,Sl.nil,fun l hl=>nomatch hl⟩
end Go.Proofs.YtmchcjaomcdbmaaGreat.Gen
namespace Go.Proofs.YtmchcjaomcdbmaaGreat.Gen
open Go Go.Proofs.YtmchcjaomcdbmaaGreat.Abs Go.RowKit
variable {g:G} {n:Nat}
def JgE:List Int:=[0,0,0,1,0,0,1,3,4,4,4,0,0,0,0]
def Zb9 (l:List Int):List Value:=l.map (.int .i64 ·)
theorem Jfw {K:Cont} (hK: ∀n',K (.agg (Zb9 JgE).toArray) g n'):AC ZcU [] g n K:=
 Jf9 (.agg (Zb9 JgE).toArray) 1000 100 (by kernel_rfl) (by kernel_rfl) (by kernel_rfl) hK
def turn (k s:Int):Int:=
 if k=14 then -2 else
 if k=8 then (if s=4 then 1 else -1) else
 if k=9 then (if s=4 then 2 else -1) else
 if k=10 then (if s=5∨s=6 then 2 else -1) else
 if k=11 then (if 7≤s then 0 else -1) else
 if k=12 then (if 1≤s∧s≤3 then 0 else if s=6 then 5 else if s=7∨s=9 then 8 else -1) else
 if k=13 then (if s=2∨s=3 then 1 else if s=7∨s=9 then 8 else -1) else -1
def JfT (k:Nat):List Int:=(List.range 10).map fun (s:Nat)=>turn (k:Int) (s:Int)
def turnsL:List Int:=(List.range 15).flatMap JfT
theorem Jes {K:Cont} (hK: ∀n',K (.agg (Zb9 turnsL).toArray) g n'):AC Jby [] g n K:=
 Jf9 (.agg (Zb9 turnsL).toArray) 1000 100 (by kernel_rfl) (by kernel_rfl) (by kernel_rfl) hK
theorem Jfv: ∀k:Fin 15,∀s:Fin 10,(((Zb9 turnsL).drop (k.val*10)).take 10)[s.val]? =some (.int .i64 (turn k.val s.val))∧k.val*10+10≤(Zb9 turnsL).length:=by
 intro k s
 have h:((turnsL.drop (k.val*10)).take 10)[s.val]? =some (turn k.val s.val)∧k.val*10+10≤turnsL.length:=by
  revert k s;decide +kernel
 unfold Zb9
 rw [←List.map_drop,←List.map_take,List.getElem?_map,h.1,List.length_map]
 exact ⟨rfl,h.2⟩
def Xy (m:Ms):Bool:=decide (1≤m.kind∧m.kind≤14∧0≤m.line∧m.line<64)&&(!m.dirty||decide (m.kind=3∨m.kind=6∨m.kind=7))&&(!m.kept||decide (m.kind=7))&&
 (m.dirty||decide (m.kind=8∨m.kind=9∨m.kind=10)||decide (m.data=zeroL))
def JaV (k:Int):Bool:=decide (8≤k∧k≤14)
theorem XeG {x:Int} {K:Cont} (hK: ∀n',K (.bool (JaV x)) g n'):AC Xbn [.int .i64 x] g n K:=by
 refine ACalls.fold Jb ?_
 rw [←QdC]
 unfold JaV at hK
 simp only [Qdz,QK,Xdh,Jf,decide_eq_true_eq,decide_eq_false_iff_not]
 refine ⟨fun h=>Ja (Sub.refl _) ?_,fun h=>Ja (Sub.refl _) ?_⟩
 ·have k:=hK n
  rw [show decide (8≤x∧x≤14)=decide (x≤14) from by rw [decide_eq_decide];omega] at k
  exact k
 ·have k:=hK n
  rw [decide_eq_false (by omega)] at k
  exact k
theorem Qe3 {l:Nat} {m:Ms} {bk:BK} {K:Value→Prop} (h:g l=some (.cells (Xi m) bk)) (k:K (.int .i64 m.kind)):kLd g l (0+0) K:=Qb h rfl k
theorem Jd6 {l:Nat} {m:Ms} {bk:BK} {K:Value→Prop} (h:g l=some (.cells (Xi m) bk)) (k:K (.int .i64 m.line)):kLd g l (0+1) K:=Qb h rfl k
theorem ZgI {l:Nat} {m:Ms} {bk:BK} {K:Value→Prop} (h:g l=some (.cells (Xi m) bk)) (k:K (.bool m.dirty)):kLd g l (0+2) K:=Qb h rfl k
theorem JgK {l:Nat} {m:Ms} {bk:BK} {K:Value→Prop} (h:g l=some (.cells (Xi m) bk)) (k:K (.bool m.kept)):kLd g l (0+3) K:=Qb h rfl k
theorem Jgf {k:Int} (h1:1≤k) (h14:k≤14) {K:Value→Prop} (kk: ∀b:Int,(b=(if k=3∨k=6 then 1 else if k=7 then 3 else if k=8∨k=9∨k=10 then 4 else 0))→K (.int .i64 b)):
  Xdl (.agg (Zb9 JgE).toArray) (.int .i64 k) 15 1 none K:=by
 simp only [Xdl,Qf,Zba,XaH]
 refine ⟨by omega,by omega,?_⟩
 have:k=1∨k=2∨k=3∨k=4∨k=5∨k=6∨k=7∨k=8∨k=9∨k=10∨k=11∨k=12∨k=13∨k=14:=by omega
 rcases this with rfl|rfl|rfl|rfl|rfl|rfl|rfl|rfl|rfl|rfl|rfl|rfl|rfl|rfl<;>exact kk _ (by decide)
theorem XbS {m:Ms} {K:Cont} (hK: ∀n',K (.bool (Xy m)) g n'):AC Jas [.agg (Xi m).toArray] g n K:=by
 refine ACalls.fold Jb ?_
 rw [←Zd1]
 simp only [Xd5,Qf]
 intro hn
 have hs:=(Sub.refl g).new hn (some (.cells (Xi m) .exact))
 have hl:=Xa g n (some (.cells (Xi m) .exact))
 generalize upd g n (some (.cells (Xi m) .exact))=g1 at*
 have no: ∀n',Xy m=false→Qc K (.bool false) g1 n':=fun n' h=>by
  have k:=hK n'
  rw [h] at k
  exact Ja hs k
 have bad: ¬(1≤m.kind∧m.kind≤14∧0≤m.line∧m.line<64)→Xy m=false:=fun h=>by unfold Xy;rw [decide_eq_false h];rfl
 refine Qe3 hl ?_
 simp only [Jj,Jf,decide_eq_true_eq,decide_eq_false_iff_not]
 refine ⟨fun h=>no _ (bad (by omega)),fun h1=>Qe3 hl ?_⟩
 simp only [Zbs,Jf,decide_eq_true_eq,decide_eq_false_iff_not]
 refine ⟨fun h=>no _ (bad (by omega)),fun h2=>Jd6 hl ?_⟩
 simp only [Jj,Jf,decide_eq_true_eq,decide_eq_false_iff_not]
 refine ⟨fun h=>no _ (bad (by omega)),fun h3=>Jd6 hl ?_⟩
 simp only [QK,Jf,decide_eq_true_eq,decide_eq_false_iff_not]
 refine ⟨fun h=>no _ (bad (by omega)),fun h4=>Qe3 hl ?_⟩
 refine Jfw (fun n2=>⟨rfl,Jgf (by omega) (by omega) (fun b hb=> ?_)⟩)
 have ok:decide (1≤m.kind∧m.kind≤14∧0≤m.line∧m.line<64)=true:=by rw [decide_eq_true_eq];omega
 have bc:b=0∨b=1∨b=3∨b=4:=by
  rw [hb]
  split
  ·omega
  ·split
   ·omega
   ·split<;>omega
 have and1: ∀{K':Value→Prop},K' (.int .i64 (if b=1∨b=3 then 1 else 0))→Xb .int .and (.int .i64 b) (.int .i64 1) K':=by
  intro K' k
  rcases bc with rfl|rfl|rfl|rfl<;>exact ⟨rfl,k⟩
 have and2: ∀{K':Value→Prop},K' (.int .i64 (if b=3 then 2 else 0))→Xb .int .and (.int .i64 b) (.int .i64 2) K':=by
  intro K' k
  rcases bc with rfl|rfl|rfl|rfl<;>exact ⟨rfl,k⟩
 have and4: ∀{K':Value→Prop},K' (.int .i64 (if b=4 then 4 else 0))→Xb .int .and (.int .i64 b) (.int .i64 4) K':=by
  intro K' k
  rcases bc with rfl|rfl|rfl|rfl<;>exact ⟨rfl,k⟩
 have i1:(b=1∨b=3)↔(m.kind=3∨m.kind=6∨m.kind=7):=by
  rw [hb]
  split
  ·omega
  ·split
   ·omega
   ·split<;>omega
 have i2:b=3↔m.kind=7:=by
  rw [hb]
  split
  ·omega
  ·split
   ·omega
   ·split<;>omega
 have i4:b=4↔(m.kind=8∨m.kind=9∨m.kind=10):=by
  rw [hb]
  split
  ·omega
  ·split
   ·omega
   ·split<;>omega
 have j1: ∀(t:Env) (n':Nat),(m.dirty=true→(m.kind=3∨m.kind=6∨m.kind=7))→(m.kept=true→m.kind=7)→t 1=ptr n 0→t 3= .int .i64 b→Qah AC K t g1 n':=by
  intro t n' hd hk t1 t3
  have eg:Xy m=(m.dirty||decide (m.kind=8∨m.kind=9∨m.kind=10)||decide (m.data=zeroL)):=by
   unfold Xy
   rw [ok]
   have e1:(!m.dirty||decide (m.kind=3∨m.kind=6∨m.kind=7))=true:=by
    cases h:m.dirty with
    | false=>rfl
    | true=>rw [decide_eq_true (hd h)];rfl
   have e2:(!m.kept||decide (m.kind=7))=true:=by
    cases h:m.kept with
    | false=>rfl
    | true=>rw [decide_eq_true (hk h)];rfl
   rw [e1,e2];rfl
  simp only [Qah,t1,t3,Zc]
  refine ZgI hl ?_
  simp only [Jf]
  refine ⟨fun h=>Ja hs ?_,fun h=> ?_⟩
  ·have k:=hK n';rw [eg,h] at k;exact k
  refine and4 ?_
  simp only [Jam,Jf,decide_eq_true_eq,decide_eq_false_iff_not]
  refine ⟨fun h4'=>Ja hs ?_,fun h4'=> ?_⟩
  ·have:b=4:=Classical.byContradiction fun e=>by rw [if_neg e] at h4';exact absurd rfl h4'
   have k:=hK n'
   rw [eg,h,decide_eq_true (i4.1 this)] at k;exact k
  ·have: ¬b=4:=by intro e;rw [if_pos e] at h4';exact h4' (by decide)
   refine ZgC hl ?_
   simp only [Jz]
   refine eqL m.data zeroL _ (Ja hs ?_)
   have k:=hK n'
   rw [eg,h,decide_eq_false (fun e=>this (i4.2 e))] at k;exact k
 have kept: ∀(t t2:Env) (n':Nat),(m.dirty=true→(m.kind=3∨m.kind=6∨m.kind=7))→True:=fun _ _ _ _=>trivial
 refine ZgI hl ?_
 simp only [Jf]
 have badK:m.kept=true→b≠3→Xy m=false:=fun h hb3=>by
  unfold Xy
  rw [h,decide_eq_false (fun e=>hb3 (i2.2 e))]
  simp
 have z2: ∀x:Int,(if x=3 then (2:Int) else 0)=0↔x≠3:=by intro x;by_cases e:x=3<;>simp [e]
 refine ⟨fun hd=> ?_,fun hd=> ?_⟩
 ·refine and1 ?_
  simp only [Qw,Jf,decide_eq_true_eq,decide_eq_false_iff_not]
  refine ⟨fun h=>⟨fun _=>no _ ?_,fun h'=>absurd h h'⟩,fun h=> ?_⟩
  ·have: ¬(b=1∨b=3):=by intro e;rw [if_pos e] at h;exact absurd h (by decide)
   unfold Xy
   rw [hd,decide_eq_false (fun e=>this (i1.2 e))]
   simp
  ·have hb1:b=1∨b=3:=Classical.byContradiction fun e=>by rw [if_neg e] at h;exact absurd rfl h
   refine JgK hl ?_
   simp only [Jf]
   refine ⟨fun hk=>and2 ?_,fun hk=>j1 _ _ (fun _=>i1.1 hb1) (fun h=>by rw [hk] at h;cases h) rfl rfl⟩
   simp only [Qw,Jf,decide_eq_true_eq,decide_eq_false_iff_not]
   refine ⟨fun h=>no _ (badK hk ((z2 b).1 h)),fun h=>j1 _ _ (fun _=>i1.1 hb1) (fun _=>i2.1 (Classical.byContradiction fun e=>absurd ((z2 b).2 e) h)) rfl rfl⟩
 ·refine JgK hl ?_
  simp only [Jf]
  refine ⟨fun hk=>and2 ?_,fun hk=>j1 _ _ (fun h=>by rw [hd] at h;cases h) (fun h=>by rw [hk] at h;cases h) rfl rfl⟩
  simp only [Qw,Jf,decide_eq_true_eq,decide_eq_false_iff_not]
  refine ⟨fun h=>no _ (badK hk ((z2 b).1 h)),fun h=>j1 _ _ (fun h=>by rw [hd] at h;cases h) (fun _=>i2.1 (Classical.byContradiction fun e=>absurd ((z2 b).2 e) h)) rfl rfl⟩
end Go.Proofs.YtmchcjaomcdbmaaGreat.Gen
namespace Go.Proofs.YtmchcjaomcdbmaaGreat.Gen
open Go Go.Proofs.YtmchcjaomcdbmaaGreat.Abs Go.RowKit
variable {g:G} {n:Nat}
theorem newL {d:Ln} {K:Nat→G→Nat→Prop} (k: ∀g2,Sub g g2→g n=none→g2 n=some (.cells (Xl d) .exact)→K n g2 (n+1)):
  Zw (Xl zeroL) .exact g n fun l g1 n1=>Jl (.agg (Xl d).toArray) fun cg=>cg.length=8∧Xw g1 l 0 cg fun g2=>K l g2 n1:=by
 intro hn
 simp only [Qf]
 refine ⟨Jd _,XB (Xa _ _ _) rfl (by rw [Jd,Jd];decide) (QG _) ?_⟩
 rw [Xv (by rw [Jd,Jd])]
 exact k _ (((Sub.refl g).new hn _).upd_fresh _ hn) hn (Xa _ _ _)
theorem XgL {l:Nat} {c d:Ln} {K:G→Prop} (h:g l=some (.cells (Xl c) .exact)) (k:K (upd g l (some (.cells (Xl d) .exact)))):Xw g l 0 (Xl d) K:=by
 refine XB h rfl (by rw [Jd,Jd];decide) (QG _) ?_
 rw [Xv (by rw [Jd,Jd])]
 exact k
def dr (s:St):Bool:=decide (s.state=3∨s.state=9)
def Jbc (m:Ms) (s:St) (next:Int):List Ms:=
 if m.kind=12 then [⟨6,m.line,dr s,false,if dr s then s.data else zeroL⟩] else
 if m.kind=13 then [⟨7,m.line,dr s,decide (next=1),if dr s then s.data else zeroL⟩] else []
theorem Zcw {m:Ms} {s:St} {next:Int} {K:Cont} (hK: ∀v' g' n',Sub g g'→Sl Xi 12 g' v' (Jbc m s next)→(∀l,QaH v'=some l→g l=none)→K v' g' n'):
  AC Xaq [.agg (Xi m).toArray,.agg (encS s).toArray,.int .i64 next] g n K:=by
 refine ACalls.fold Jb ?_
 rw [←Jcr]
 simp only [Jcd,Qf]
 intro hn
 have hs1:=(Sub.refl g).new hn (some (.cells (Xi m) .exact))
 have hl3:=Xa g n (some (.cells (Xi m) .exact))
 generalize upd g n (some (.cells (Xi m) .exact))=g1 at*
 intro hn1
 have hs2:=(Sub.refl g1).new hn1 (some (.cells (encS s) .exact))
 have hl4:=Xa g1 (n+1) (some (.cells (encS s) .exact))
 generalize upd g1 (n+1) (some (.cells (encS s) .exact))=g2 at*
 refine Jd6 (hs2.live hl3) (XfJ (ZgA (fun g4 hs4 hn7 hl7=> ?_)))
 have hsg:=hs1.trans (hs2.trans hs4)
 have hn7g:g (n+1+1)=none:=(hs1.trans hs2).none hn7
 have hl4':=hs4.live hl4
 have j2: ∀(t:Env) (g5:G) (n5:Nat) (x:Ms),Sub g g5→g5 (n+1+1)=some (.cells (Xi x) .exact)→Jbc m s next=[x]→t 7=ptr (n+1+1) 0→JQ AC K t g5 n5:=by
  intro t g5 n5 x hs5 hl hx t7
  simp only [JQ,t7,Zc]
  refine ldM hl (Xc7 ?_)
  intro hn6
  have hs6:=(Sub.refl g5).new hn6 (some (.cells (Xi x) .exact))
  refine Ja (Sub.refl _) (hK _ _ _ (hs5.trans hs6) ?_ ?_)
  ·rw [hx];exact Sl.one (Qh _) (Xa _ _ _)
  ·intro l hl;cases hl;exact hs5.none hn6
 have j1: ∀(t:Env) (g5:G) (n5:Nat) (x:Ms),Sub g g5→g5 (n+1)=some (.cells (encS s) .exact)→g5 (n+1+1)=some (.cells (Xi x) .exact)→x.dirty=false→x.data=zeroL→
   Jbc m s next=[{ x with dirty:=dr s,data:=if dr s then s.data else zeroL }]→t 4=ptr (n+1) 0→t 7=ptr (n+1+1) 0→Qap AC K t g5 n5:=by
  intro t g5 n5 x hs5 h4 h7 hxd hxz hx t4 t7
  simp only [Qap,t4,t7,Zc]
  have yes:dr s=true→ ∀(t:Env) ,t 7=ptr (n+1+1) 0→JQ AC K t (upd (upd g5 (n+1+1) (some (.cells ((Xi x).set (0+2) (.bool true)) .exact))) (n+1+1) (some (.cells (Xi { { x with dirty:=true } with data:=s.data }) .exact))) n5:=by
   intro hd t t7
   refine j2 _ _ _ { { x with dirty:=true } with data:=s.data } ((hs5.upd_fresh _ hn7g).upd_fresh _ hn7g) (Xa _ _ _) ?_ t7
   rw [hx,hd];rfl
  have hne:n+1≠n+1+1:=by omega
  refine Qfr h4 ?_
  simp only [Qw,Jf,decide_eq_true_eq,decide_eq_false_iff_not]
  refine ⟨fun h3=> ?_,fun h3=>Qfr h4 ?_⟩
  ·refine Xf3 h4 (ZR h7 rfl (by rw [Qh];decide) rfl ?_)
   refine ⟨Xc _ _ hne,Jd _,?_⟩
   refine Zgz (m:={ x with dirty:=true }) (Xa _ _ _) ?_
   exact yes (by unfold dr;rw [decide_eq_true_eq];exact .inl h3) _ t7
  ·simp only [Qw,Jf,decide_eq_true_eq,decide_eq_false_iff_not]
   refine ⟨fun h9=> ?_,fun h9=> ?_⟩
   ·refine Xf3 h4 (ZR h7 rfl (by rw [Qh];decide) rfl ?_)
    refine ⟨Xc _ _ hne,Jd _,?_⟩
    refine Zgz (m:={ x with dirty:=true }) (Xa _ _ _) ?_
    exact yes (by unfold dr;rw [decide_eq_true_eq];exact .inr h9) _ t7
   ·have hd:dr s=false:=by unfold dr;rw [decide_eq_false_iff_not];omega
    refine j2 _ _ _ x hs5 h7 ?_ t7
    rw [hx,hd]
    cases x
    simp only at hxd hxz
    subst hxd hxz
    rfl
 have hne1:n+1≠n+1+1:=by omega
 refine Qe3 (hs4.live (hs2.live hl3)) ?_
 simp only [Qw,Jf,decide_eq_true_eq,decide_eq_false_iff_not]
 refine ⟨fun h12=> ?_,fun h12=>⟨fun h13=> ?_,fun h13=> ?_⟩⟩
 ·refine ZR hl7 rfl (by rw [Qh];decide) rfl ?_
  refine j1 _ _ _ ⟨6,m.line,false,false,zeroL⟩ (hsg.upd_fresh _ hn7g) (by rw [Xc _ _ hne1];exact hl4') (by rw [Xa];rfl) rfl rfl ?_ rfl rfl
  unfold Jbc;rw [if_pos h12]
 ·refine ZR hl7 rfl (by rw [Qh];decide) rfl ?_
  refine ZR (Xa _ _ _) rfl (by simp [Qh]) rfl ?_
  refine j1 _ _ _ ⟨7,m.line,false,decide (next=1),zeroL⟩ ((hsg.upd_fresh _ hn7g).upd_fresh _ hn7g) (by rw [Xc _ _ hne1,Xc _ _ hne1];exact hl4') (by rw [Xa];rfl) rfl rfl ?_ rfl rfl
  unfold Jbc;rw [if_neg h12,if_pos h13]
 ·have e:Jbc m s next=[]:=by unfold Jbc;rw [if_neg h12,if_neg h13]
  rw [e] at hK
  exact Ja (Sub.refl _) (hK _ _ _ hsg Sl.nil (fun l hl=>nomatch hl))
def XbJ (m:Ms) (s:St) (next:Int):Ln:=if m.kind=8∨m.kind=9∨m.kind=10 then m.data else if next=5∨next=8 then zeroL else s.data
def Arr.hear (A:Arr) (m:Ms):List Ms×Arr×Int:=
 if Xy m=false∨JaV m.kind=false then ([],A,1) else
 if turn m.kind (A.slot m.line).state= -1 then ([],A,16) else
 if turn m.kind (A.slot m.line).state= -2 then ([],A,0) else
 if turn m.kind (A.slot m.line).state=0 then (Jbc m (A.slot m.line) 0,A.drop m.line,0) else
 (Jbc m (A.slot m.line) (turn m.kind (A.slot m.line).state),(A.set m.line (turn m.kind (A.slot m.line).state) (XbJ m (A.slot m.line) (turn m.kind (A.slot m.line).state))).2,0)
theorem Zb1 {A:Arr} (hok:A.ok) (hw:A.wf) (line:Int):0≤(A.slot line).state∧(A.slot line).state≤9:=by
 unfold Arr.slot Arr.find
 cases ha:A.at line with
 | none=>exact ⟨by show (0:Int)≤0;decide,by show (0:Int)≤9;decide⟩
 | some k=>
  obtain ⟨t,ht,ht0,_,hst⟩:=Arr.at_some hok ha
  have:=hw.place _ _ ht ht0
  show 0≤(A.slotAt line k).state∧(A.slotAt line k).state≤9
  rw [hst];omega
theorem Ze2 {A:Arr} {lg la ls:Nat} {m:Ms} (hok:A.ok) (hw:A.wf) (hu:A.used<100000) (hh:AgH g lg la ls A) {K:Cont}
  (hK: ∀v' g' n',Out g g' lg la ls (A.hear m).2.1 v' (A.hear m).1→K (.tuple #[v',.int .i64 (A.hear m).2.2]) g' n'):
  AC Qag [ptr lg 0,.agg (Xi m).toArray] g n K:=by
 refine ACalls.fold Jb ?_
 rw [←ZbD]
 simp only [Qa8,Qf]
 intro hn
 have hs1:=(Sub.refl g).new hn (some (.cells (Xi m) .exact))
 have hl3:=Xa g n (some (.cells (Xi m) .exact))
 generalize upd g n (some (.cells (Xi m) .exact))=g1 at*
 have hh1:=hh.mono hs1
 simp only [Zp]
 refine Zd rfl (ldM hl3 (XbS (fun n2=> ?_)))
 simp only [Jaw,Jf,Bool.not_eq_true',Bool.not_eq_false']
 refine ⟨fun hg=> ?_,fun hg=>Qe3 hl3 (XeG (fun n3=> ?_))⟩
 ·have e:A.hear m=([],A,1):=by unfold Arr.hear;rw [if_pos (.inl hg)]
  rw [e] at hK
  exact Ja (Sub.refl _) (hK _ _ _ ((Out.nil hh1).of hs1))
 simp only [Jaw,Jf,Bool.not_eq_true',Bool.not_eq_false']
 refine ⟨fun ht=> ?_,fun ht=>Jd6 hl3 (find_spec hok hh1 (fun n4=>XfX (s:=A.slot m.line) (fun g6 hs6 hn6 hl6=> ?_)))⟩
 ·have e:A.hear m=([],A,1):=by unfold Arr.hear;rw [if_pos (.inr ht)]
  rw [e] at hK
  exact Ja (Sub.refl _) (hK _ _ _ ((Out.nil hh1).of hs1))
 have hc: ¬(Xy m=false∨JaV m.kind=false):=by rw [hg,ht];decide
 have hst:=Zb1 hok hw m.line
 have hkd:8≤m.kind∧m.kind≤14:=of_decide_eq_true (show JaV m.kind=true from ht)
 unfold Arr.hear at hK
 rw [if_neg hc] at hK
 generalize A.slot m.line=s at*
 refine Qe3 (hs6.live hl3) (Qfr hl6 (Jes (fun n7=>⟨rfl,rfl,?_⟩)))
 have hidx:=Jfv ⟨m.kind.toNat,by omega⟩ ⟨s.state.toNat,by omega⟩
 simp only at hidx
 rw [show ((m.kind.toNat:Nat):Int)=m.kind by omega,show ((s.state.toNat:Nat):Int)=s.state by omega] at hidx
 generalize turn m.kind s.state=next at*
 simp only [Xdl,Qf,Zba,XaH]
 refine ⟨by omega,by omega,hidx.2,by omega,by omega,Qb1 (by rw [Nat.mul_one];exact hidx.1) ?_⟩
 have hsg:=hs1.trans hs6
 refine Xf3 hl6 (newL (fun g9 hs9 hn8 hl8=> ?_))
 have hs9g:=hsg.trans hs9
 have hl3':=hs9.live (hs6.live hl3)
 have hl6':=hs9.live hl6
 have hh9:=hh.mono hs9g
 have hn8g:g n7=none:=hsg.none hn8
 have h36:n≠n4:=Zl (hl3) hn6 |> fun h=>fun e=>h e.symm
 have h38:n≠n7:=fun e=>by rw [←e] at hn8;rw [hs6.live hl3] at hn8;cases hn8
 have h68:n4≠n7:=fun e=>by rw [←e] at hn8;rw [hl6] at hn8;cases hn8
 have ap3:=And.intro (Zl hh.arr.obj hn) (Zl hh.arr.row hn)
 have ap6:=And.intro (Zl hh1.arr.obj hn6) (Zl hh1.arr.row hn6)
 have j4: ∀(t:Env) (g10:G) (n10:Nat),¬next= -1→ ¬next= -2→ ¬next=0→Sub g g10→g10 n=some (.cells (Xi m) .exact)→g10 n4=some (.cells (encS s) .exact)→g10 n7=some (.cells (Xl (XbJ m s next)) .exact)→
   t 0=ptr lg 0→t 3=ptr n 0→t 6=ptr n4 0→t 7= .int .i64 next→t 8=ptr n7 0→QU AC K t g10 n10:=by
  intro t g10 n10 c1 c2 c3 hs10 hl3 hl6 hl8 t0 t3 t6 t7 t8
  rw [if_neg c1,if_neg c2,if_neg c3] at hK
  have hh10:=hh.mono hs10
  simp only [QU,t0,t3,t6,t7,t8,Zf,Zc]
  refine ldA hh10 (Jd6 hl3 (ldL hl8 ?_))
  refine Jck (d:=XbJ m s next) hok hu hh10.arr (fun g11 n11 hs11 hh11=> ?_)
  refine ldM (hs11.live (ZN ap3.1 ap3.2 hl3)) (ldS (x:=s) (hs11.live (ZN ap6.1 ap6.2 hl6)) ?_)
  refine Zcw (fun v' g' n' hs' hsl hfr=>Ja (Sub.refl _) (hK _ _ _ ?_))
  refine ⟨((JaG hs10).trans hs11).trans hs',(hh10.next hs11 hh11).mono hs',hsl,fun l hl=> ?_⟩
  have h1:=hfr l hl
  cases hgl:g l with
  | none=>rfl
  | some b=>
   have n1:=Zl hh11.obj h1
   have n2:=Zl hh11.row h1
   have:=hs11.live (ZN n1 n2 (hs10.live hgl))
   rw [h1] at this;cases this
 have j3: ∀(t:Env) (g10:G) (n10:Nat) (c:Ln),¬next= -1→ ¬next= -2→ ¬next=0→Sub g g10→g10 n=some (.cells (Xi m) .exact)→g10 n4=some (.cells (encS s) .exact)→g10 n7=some (.cells (Xl c) .exact)→
   (c=if next=5∨next=8 then zeroL else s.data)→t 59= .bool (decide (m.kind=8∨m.kind=9∨m.kind=10))→t 0=ptr lg 0→t 3=ptr n 0→t 6=ptr n4 0→t 7= .int .i64 next→t 8=ptr n7 0→QJ AC K t g10 n10:=by
  intro t g10 n10 c c1 c2 c3 hs10 hl3 hl6 hl8 hcc t59 t0 t3 t6 t7 t8
  simp only [QJ,t59,t3,t8,Jf,decide_eq_true_eq,decide_eq_false_iff_not,Zc]
  refine ⟨fun hk=> ?_,fun hk=> ?_⟩
  ·refine ZgC hl3 ?_
   simp only [Qf]
   refine ⟨Jd _,XgL hl8 ?_⟩
   refine j4 _ _ _ c1 c2 c3 (hs10.upd_fresh _ hn8g) (by rw [Xc _ _ h38];exact hl3) (by rw [Xc _ _ h68];exact hl6) ?_ t0 t3 t6 t7 t8
   rw [Xa];unfold XbJ;rw [if_pos hk]
  ·refine j4 _ _ _ c1 c2 c3 hs10 hl3 hl6 ?_ t0 t3 t6 t7 t8
   rw [hl8];unfold XbJ;rw [if_neg hk,hcc]
 have j2: ∀(t:Env) (g10:G) (n10:Nat) (c:Ln),¬next= -1→ ¬next= -2→ ¬next=0→Sub g g10→g10 n=some (.cells (Xi m) .exact)→g10 n4=some (.cells (encS s) .exact)→g10 n7=some (.cells (Xl c) .exact)→
   (c=if next=5∨next=8 then zeroL else s.data)→t 0=ptr lg 0→t 3=ptr n 0→t 6=ptr n4 0→t 7= .int .i64 next→t 8=ptr n7 0→QS AC K t g10 n10:=by
  intro t g10 n10 c c1 c2 c3 hs10 hl3 hl6 hl8 hcc t0 t3 t6 t7 t8
  simp only [QS,t3,Zc]
  refine Qe3 hl3 ?_
  simp only [Qw,Jf,decide_eq_true_eq,decide_eq_false_iff_not]
  have hb: ∀{p:Prop} [Decidable p],(p↔(m.kind=8∨m.kind=9∨m.kind=10))→Value.bool (decide p)= .bool (decide (m.kind=8∨m.kind=9∨m.kind=10)):=fun h=>by congr 1;rw [decide_eq_decide];exact h
  refine ⟨fun h8=>j3 _ _ _ c c1 c2 c3 hs10 hl3 hl6 hl8 hcc ?_ t0 t3 t6 t7 t8,fun h8=>⟨fun h9=>j3 _ _ _ c c1 c2 c3 hs10 hl3 hl6 hl8 hcc ?_ t0 t3 t6 t7 t8,fun h9=>j3 _ _ _ c c1 c2 c3 hs10 hl3 hl6 hl8 hcc ?_ t0 t3 t6 t7 t8⟩⟩
  ·exact hb (by omega)
  ·exact hb (by omega)
  ·exact hb (by omega)
 have j1: ∀(t:Env) (n10:Nat),¬next= -1→ ¬next= -2→ ¬next=0→t 53= .bool (decide (next=5∨next=8))→t 0=ptr lg 0→t 3=ptr n 0→t 6=ptr n4 0→t 7= .int .i64 next→t 8=ptr n7 0→ZU AC K t g9 n10:=by
  intro t n10 c1 c2 c3 t53 t0 t3 t6 t7 t8
  simp only [ZU,t53,t8,Jf,decide_eq_true_eq,decide_eq_false_iff_not,Jz,Zc,Qf]
  refine ⟨fun h5=>⟨rfl,XgL (d:=zeroL) hl8 ?_⟩,fun h5=> ?_⟩
  ·exact j2 _ _ _ zeroL c1 c2 c3 (hs9g.upd_fresh _ hn8g) (by rw [Xc _ _ h38];exact hl3') (by rw [Xc _ _ h68];exact hl6') (Xa _ _ _) (by rw [if_pos h5]) t0 t3 t6 t7 t8
  ·exact j2 _ _ _ s.data c1 c2 c3 hs9g hl3' hl6' hl8 (by rw [if_neg h5]) t0 t3 t6 t7 t8
 simp only [Qw,Jf,decide_eq_true_eq,decide_eq_false_iff_not]
 refine ⟨fun c1=> ?_,fun c1=>⟨fun c2=> ?_,fun c2=>⟨fun c3=> ?_,fun c3=> ?_⟩⟩⟩
 ·rw [if_pos c1] at hK
  exact Ja (Sub.refl _) (hK _ _ _ ((Out.nil hh9).of hs9g))
 ·rw [if_neg c1,if_pos c2] at hK
  exact Ja (Sub.refl _) (hK _ _ _ ((Out.nil hh9).of hs9g))
 ·rw [if_neg c1,if_neg c2,if_pos c3] at hK
  subst c3
  simp only [Zf,Zc]
  refine ldA hh9 (Jd6 hl3' ?_)
  refine JeP hok hh9.arr (fun g10 n10 hs10 hh10=> ?_)
  refine ldM (hs10.live (ZN ap3.1 ap3.2 hl3')) (ldS (x:=s) (hs10.live (ZN ap6.1 ap6.2 hl6')) ?_)
  refine Zcw (fun v' g' n' hs' hsl hfr=>Ja (Sub.refl _) (hK _ _ _ ?_))
  refine ⟨((JaG hs9g).trans hs10).trans hs',(hh9.next hs10 hh10).mono hs',hsl,fun l hl=> ?_⟩
  have h1:=hfr l hl
  cases hgl:g l with
  | none=>rfl
  | some b=>
   have n1:=Zl hh10.obj h1
   have n2:=Zl hh10.row h1
   have:=hs10.live (ZN n1 n2 (hs9g.live hgl))
   rw [h1] at this;cases this
 ·refine ⟨fun h5=>j1 _ _ c1 c2 c3 ?_ rfl rfl rfl rfl rfl,fun h5=>j1 _ _ c1 c2 c3 ?_ rfl rfl rfl rfl rfl⟩
  ·show Value.bool (decide (next=5))=_
   congr 1;rw [decide_eq_decide];omega
  ·show Value.bool (decide (next=8))=_
   congr 1;rw [decide_eq_decide];omega
def Arr.evict (A:Arr) (line:Int):List Ms×Arr×Int:=
 if A.idle=false then ([],A,15) else if (A.slot line).state=0 then ([],A,14) else ((A.out (A.slot line)).1,(A.out (A.slot line)).2,0)
theorem Qex {A:Arr} {lg la ls:Nat} {line:Int} (hok:A.ok) (hu:A.used<100000) (hh:AgH g lg la ls A) {K:Cont}
  (hK: ∀v' g' n',Out g g' lg la ls (A.evict line).2.1 v' (A.evict line).1→K (.tuple #[v',.int .i64 (A.evict line).2.2]) g' n'):
  AC Jab [ptr lg 0,.int .i64 line] g n K:=by
 refine ACalls.fold Jb ?_
 rw [←Xbu]
 simp only [QaR,Zp]
 refine Zd rfl (ZdI hok hh (fun n1=> ?_))
 simp only [Jaw,Jf,Bool.not_eq_true',Bool.not_eq_false']
 refine ⟨fun hi=> ?_,fun hi=>find_spec hok hh (fun n2=>XfX (s:=A.slot line) (fun g4 hs4 hn4 hl=>Qfr hl ?_))⟩
 ·have e:A.evict line=([],A,15):=by unfold Arr.evict;rw [if_pos hi]
  rw [e] at hK
  exact Ja (Sub.refl _) (hK _ _ _ (Out.nil hh))
 have hi': ¬A.idle=false:=by rw [hi];decide
 have hh4:=hh.mono hs4
 simp only [Qw,Jf,decide_eq_true_eq,decide_eq_false_iff_not]
 refine ⟨fun h0=> ?_,fun h0=>ldS (x:=A.slot line) hl ?_⟩
 ·have e:A.evict line=([],A,14):=by unfold Arr.evict;rw [if_neg hi',if_pos h0]
  rw [e] at hK
  exact Ja (Sub.refl _) (hK _ _ _ ((Out.nil hh4).of hs4))
 ·have e:A.evict line=((A.out (A.slot line)).1,(A.out (A.slot line)).2,0):=by unfold Arr.evict;rw [if_neg hi',if_neg h0]
  rw [e] at hK
  exact Zd7 hok hu hh4 (fun v' g' n' ho=>Ja (Sub.refl _) (hK _ _ _ (ho.of hs4)))
theorem Xex {s w:Int} {K:Cont} (hgood:Qet s w) (hK: ∀lg la ls g' n',Sub g g'→g lg=none→g la=none→g ls=none→AgH g' lg la ls (Jd9 s.toNat w.toNat)→K (.tuple #[ptr lg 0,.int .i64 0]) g' n'):AC Jbg [.int .i64 s,.int .i64 w] g n K:=by
 refine ACalls.fold Jb ?_
 rw [←Xdz]
 simp only [Qdr]
 refine XfD (fun h=>absurd hgood h) (fun _ la ls g1 n1 hs1 hla hls hh=> ?_)
 simp only [Zm,Jq,Qr,Jam]
 refine Zd (by simp) ?_
 refine ⟨rfl,by simp,?_⟩
 simp only [Jz,Qf]
 intro hn
 have hs2:=(Sub.refl g1).new hn (some (.cells [ptr la 0] .exact))
 exact Ja (Sub.refl _) (hK _ _ _ _ _ (hs1.trans hs2) (hs1.none hn) hla hls ⟨Xa _ _ _,hh.mono hs2,Zl hh.obj hn,Zl hh.row hn⟩)
end Go.Proofs.YtmchcjaomcdbmaaGreat.Gen
namespace Go.Proofs.YtmchcjaomcdbmaaGreat.Gen
open Go Go.Proofs.YtmchcjaomcdbmaaGreat.Abs Go.RowKit
variable {g:G} {n:Nat}
theorem XeP {l off:Nat} {cs:List Value} {bk:BK} {v:Value} {ms:List Ms} (hg:g l=some (.cells cs bk)) (hv:cs[off]? =some v) (hs:Sl Xi 12 g v ms) {K:Cont} (hK: ∀n',K (.int .i64 ms.length) g n'):AC Qaf [ptr l off] g n K:=by
 refine ACalls.fold Jb ?_
 rw [←Jcj]
 simp only [XbW]
 rw [Zp]
 refine Zd rfl ?_
 rw [Zf,Zc]
 refine Qb hg (by simpa using hv) ?_
 exact hs.len (Ja (Sub.refl _) (hK _))
theorem stM {l:Nat} {m z:Ms} {K:G→Prop} (h:g l=some (.cells (Xi z) .exact)) (k:upd g l (some (.cells (Xi m) .exact)) l=some (.cells (Xi m) .exact)→K (upd g l (some (.cells (Xi m) .exact)))):(Xi m).length=12∧Xw g l 0 (Xi m) K:=by
 refine ⟨Qh _,XB h rfl (by rw [Qh,Qh];decide) (XbN _) ?_⟩
 rw [Xv (by rw [Qh,Qh])]
 exact k (Xa _ _ _)
theorem Qdu {l off:Nat} {cs:List Value} {bk:BK} {v:Value} {ms:List Ms} (hg:g l=some (.cells cs bk)) (hv:cs[off]? =some v) (hs:Sl Xi 12 g v ms) {K:Cont}
  (hK: ∀g' n',Sub g g'→K (.tuple #[.agg (Xi (ms.headD Xh)).toArray,.bool (!ms.isEmpty)]) g' n'):AC ZQ [ptr l off] g n K:=by
 refine ACalls.fold Jb ?_
 rw [←Qb8]
 simp only [Qby,Jz]
 intro hn
 have s1:Sub g (upd g n (some (.cells (Xi Xh) .exact))):=(Sub.refl g).new hn _
 have hz:upd g n (some (.cells (Xi Xh) .exact)) n=some (.cells (Xi Xh) .exact):=Xa _ _ _
 change AC Qaf [ptr l off] (upd g n (some (.cells (Xi Xh) .exact))) (n+1) _
 refine XeP (s1.live hg) hv (hs.mono s1) (fun n2=> ?_)
 rw [Qw]
 cases ms with
 | nil=>
  refine Jh rfl ?_
  change Jl (.agg (Xi Xh).toArray) _
  rw [Qf]
  refine stM hz (fun h=> ?_)
  refine ldM h ?_
  exact Ja (Sub.refl _) (hK _ _ (s1.upd_fresh _ hn))
 | cons m ms=>
  refine Zd (decide_eq_false (by simp;omega)) ?_
  rw [Zf,Zc]
  refine Qb (s1.live hg) (by simpa using hv) ?_
  refine (hs.mono s1).idx (j:=0) Qh rfl (fun l2 o2 ha=> ?_)
  rw [Zc]
  refine ha.ldN (by rw [Qh]) ?_
  rw [Qf]
  refine stM hz (fun h=> ?_)
  refine ldM h ?_
  exact Ja (Sub.refl _) (hK _ _ (s1.upd_fresh _ hn))
theorem Xgz {vs:List Value} {i:Nat} {v:Value} {K:Value→Prop} (h:vs[i]? =some v) (k:K v):Xd (.tuple vs.toArray) i K:=Qb1 h k
theorem Qe7 {cs:List Value} {off:Nat} {v:Value} (h:cs[off]? =some v):cs.set off v=cs:=by
 apply List.ext_getElem?
 intro i
 rw [List.getElem?_set]
 split
 ·rename_i e;subst e;split
  ·exact h.symm
  ·rename_i hl;rw [List.getElem?_eq_none (by omega)]
 ·rfl
variable {T:Type} {o:Col T} {c d:T}
theorem Jc4 {l off:Nat} {cs:List Value} {bk:BK} {v:Value} {ms:List Ms} (hL:Live o g) (hg:g l=some (.cells cs bk)) (hr:bk.rw=true) (hd:o l=some d) (hcd:c≠d) (hv:cs[off]? =some v) (hq:QV Xi 12 o c g v ms) {K:Cont}
  (hK: ∀g' n' v',Kept (· =d) o o g g'→Live o g'→g' l=some (.cells (cs.set off v') bk)→QV Xi 12 o c g' v' ms.tail→K (.tuple #[.agg (Xi (ms.headD Xh)).toArray,.bool (!ms.isEmpty)]) g' n'):AC Xr [ptr l off] g n K:=by
 refine ACalls.fold Jb ?_
 rw [←Zcg]
 simp only [JbU]
 intro hn
 have s1:Sub g (upd g n (some (.cells (Xi Xh) .exact))):=(Sub.refl g).new hn _
 have hz:upd g n (some (.cells (Xi Xh) .exact)) n=some (.cells (Xi Xh) .exact):=Xa _ _ _
 change AC ZQ [ptr l off] (upd g n (some (.cells (Xi Xh) .exact))) (n+1) _
 refine Qdu (s1.live hg) hv ((hq.sl Qh).mono s1) (fun g2 n2 s2=> ?_)
 refine Xgz (vs:=[.agg (Xi (ms.headD Xh)).toArray,.bool (!ms.isEmpty)]) rfl (Xgz (vs:=[.agg (Xi (ms.headD Xh)).toArray,.bool (!ms.isEmpty)]) rfl ?_)
 have s12:=s1.trans s2
 refine ZgA (fun g3 s3 hn3 h3=> ?_)
 have s123:=s12.trans s3
 have hz3:=s3.live (s2.live hz)
 have hno:o n=none:=hL.fresh hn
 have hne:n≠n2:=fun e=>by rw [←e] at hn3;rw [s2.live hz] at hn3;cases hn3
 have fin: ∀(g4:G) (t:Env) (m:Nat) (v':Value),t 4=ptr n2 0→t 2=ptr n 0→t 5= .bool (!ms.isEmpty)→g4 n2=some (.cells (Xi (ms.headD Xh)) .exact)→g4 n=some (.cells (Xi Xh) .exact)→Kept (· =d) o o g g4→Live o g4→g4 l=some (.cells (cs.set off v') bk)→QV Xi 12 o c g4 v' ms.tail→Qae AC K t g4 m:=by
  intro g4 t m v' t4 t2 t5 h4 hz4 hk hl hg4 hq4
  simp only [Qae,t4,t2,t5,Zc]
  refine ldM h4 ?_
  rw [Qf]
  refine stM hz4 (fun h=> ?_)
  refine ldM h ?_
  have hln:l≠n:=fun e=>by rw [e] at hd;rw [hno] at hd;cases hd
  refine Ja (Sub.refl _) (hK _ _ v' (hk.fresh hn hno _) (hl.upd _ _) (by rw [Xc _ _ hln];exact hg4) ?_)
  exact hq4.of_upd hno
 cases ms with
 | nil=>
  refine Zd rfl ?_
  refine fin g3 _ _ v rfl rfl rfl h3 hz3 (Kept.of_sub hL s123) (hL.sub s123) ?_ (hq.of_sub s123)
  rw [Qe7 hv];exact s123.live hg
 | cons m ms=>
  refine Jh rfl ?_
  have hg3:=s123.live hg
  rw [Zf,Zc]
  refine Qb hg3 (by simpa using hv) ?_
  refine (hq.of_sub s123).tail Qh (fun v' hq'=> ?_)
  rw [Zf,Zc]
  have hoff:off<cs.length:=Qd hv
  refine ZR hg3 hr (by simpa using hoff) hq'.cellOk ?_
  have e:cs.set (off+0) v'=cs.set off v':=by rw [Nat.add_zero]
  rw [e]
  have hl2:n2≠l:=fun e=>by rw [e,s12.live hg] at hn3;cases hn3
  have hl1:n≠l:=fun e=>by rw [e,hg] at hn;cases hn
  refine fin _ _ _ v' rfl rfl rfl (by rw [Xc _ _ hl2];exact h3) (by rw [Xc _ _ hl1];exact hz3) ((Kept.of_sub hL s123).trans (Kept.upd (t:=(· =d)) hd rfl _)) ((hL.sub s123).upd _ _) (Xa _ _ _) ?_
  exact hq'.kept (Kept.upd (t:=(· =d)) hd rfl _) hcd
def Qab (ms:List Ms) (m:Ms):List Ms×Int:=if Xy m=false then (ms,11) else if 1000≤ms.length then (ms,13) else (ms++[m],0)
theorem Jct {l off:Nat} {cs:List Value} {bk:BK} {v:Value} {ms:List Ms} {m:Ms} (hL:Live o g) (hg:g l=some (.cells cs bk)) (hr:bk.rw=true) (hd:o l=some d) (hcd:c≠d) (hv:cs[off]? =some v) (hq:QV Xi 12 o c g v ms) {K:Cont}
  (hK: ∀o' g' n' v',Kept (fun x=>x=c∨x=d) o o' g g'→Live o' g'→o' l=some d→g' l=some (.cells (cs.set off v') bk)→QV Xi 12 o' c g' v' (Qab ms m).1→K (.int .i64 (Qab ms m).2) g' n'):AC Zv [ptr l off,.agg (Xi m).toArray] g n K:=by
 refine ACalls.fold Jb ?_
 rw [←Qb2]
 simp only [QbA,Qf]
 intro hn
 have s1:Sub g (upd g n (some (.cells (Xi m) .exact))):=(Sub.refl g).new hn _
 have hm:upd g n (some (.cells (Xi m) .exact)) n=some (.cells (Xi m) .exact):=Xa _ _ _
 generalize upd g n (some (.cells (Xi m) .exact))=g1 at s1 hm
 rw [Zp]
 refine Zd rfl ?_
 refine ldM hm ?_
 refine XbS (fun n2=> ?_)
 rw [Jaw]
 have hL1:=hL.sub s1
 have same: ∀e:Int,Qab ms m=(ms,e)→Qc K (.int .i64 e) g1 n2:=by
  intro e he
  rw [he] at hK
  exact Ja (Sub.refl _) (hK o _ _ v (Kept.of_sub hL s1) hL1 hd (by rw [Qe7 hv];exact s1.live hg) (hq.of_sub s1))
 by_cases hgm:Xy m=false
 ·refine Jh (by rw [hgm];rfl) ?_
  exact same 11 (by unfold Qab;rw [if_pos hgm])
 have hgm':Xy m=true:=by cases h:Xy m<;>simp_all
 refine Zd (by rw [hgm'];rfl) ?_
 rw [Zf,Zc]
 have hg1:=s1.live hg
 refine Qb hg1 (by simpa using hv) ?_
 have hq1:=hq.of_sub s1
 refine (hq1.sl Qh).len ?_
 rw [QK]
 by_cases hlen:1000≤ms.length
 ·refine Jh (decide_eq_true (by omega)) ?_
  exact same 13 (by unfold Qab;rw [if_neg hgm,if_pos hlen])
 refine Zd (decide_eq_false (by omega)) ?_
 have hp:Qab ms m=(ms++[m],0):=by unfold Qab;rw [if_neg hgm,if_neg hlen]
 rw [hp] at hK
 rw [Zf,Zc]
 refine Qb hg1 (by simpa using hv) ?_
 refine ldM hm ?_
 refine Xc7 ?_
 intro hn3
 have s2:Sub g1 (upd g1 n2 (some (.cells (Xi m) .exact))):=(Sub.refl g1).new hn3 _
 have hx:upd g1 n2 (some (.cells (Xi m) .exact)) n2=some (.cells (Xi m) .exact):=Xa _ _ _
 have hne:l≠n2:=fun e=>by rw [←e,hg1] at hn3;cases hn3
 refine ⟨Xc _ _ hne,?_⟩
 generalize upd g1 n2 (some (.cells (Xi m) .exact))=g2 at s2 hx
 have hno:o n2=none:=hL1.fresh hn3
 have hsl:Sl Xi 12 (unc o g2) (.slice (some ⟨n2,0,none⟩) 1 1) [m]:=Sl.one (Qh m) (bk:= .exact) (by rw [Jm hno];exact hx)
 refine (hq1.of_sub s2).append Qh (hL1.sub s2) hsl (by simp) XbN (by decide) (by simp;omega) (by simp;omega) (fun v' o' g' n' hk hl hq'=> ?_)
 obtain ⟨hd',hgl⟩:=hk.col l d hd (fun e=>hcd e.symm)
 have hg':g' l=some (.cells cs bk):=by rw [hgl];exact s2.live hg1
 rw [Zf,Zc]
 have hoff:off<cs.length:=Qd hv
 refine ZR hg' hr (by simpa using hoff) hq'.cellOk ?_
 have e:cs.set (off+0) v'=cs.set off v':=by rw [Nat.add_zero]
 rw [e]
 refine Ja (Sub.refl _) (hK o' _ _ v' ((((Kept.of_sub hL (s1.trans s2)).trans (hk.mono (t':=fun x=>x=c∨x=d) (fun _ h=> .inl h)))).trans (Kept.upd (t:=fun x=>x=c∨x=d) hd' (.inr rfl) _)) (hl.upd _ _) hd' (Xa _ _ _) ?_)
 exact hq'.kept (Kept.upd (t:=(· =d)) hd' rfl _) hcd
end Go.Proofs.YtmchcjaomcdbmaaGreat.Gen
namespace Go.Proofs.YtmchcjaomcdbmaaGreat.Gen
open Go Go.Proofs.YtmchcjaomcdbmaaGreat.Abs Go.RowKit
variable {g:G} {n:Nat}
inductive Cl where
 | sys|nodes|dir|que|ent|dev|mem
 | ag (i:Nat)|up (i:Nat)|ans (i:Nat)|dn (i:Nat)
structure Dev where
 mem:List Ln
 vol:Nat
structure DevH (o:Col Cl) (g:G) (ld lm:Nat) (D:Dev):Prop where
 od:o ld=some .dev
 om:o lm=some .mem
 hd: ∃r w,g ld=some (.cells [.slice (some ⟨lm,0,none⟩) D.mem.length D.mem.length,.int .i64 (D.vol:Nat),.int .i64 r,.int .i64 w] .exact)
 hm:g lm=some (.cells (D.mem.map Xl).flatten .exact)
def Zaz (c:Cl):Prop:=c= .dev∨c= .mem
theorem DevH.ne {o:Col Cl} {ld lm:Nat} {D:Dev} (h:DevH o g ld lm D):ld≠lm:=fun e=>by have:=h.od;rw [e,h.om] at this;cases this
theorem DevH.kept {o o':Col Cl} {g':G} {t:Cl→Prop} {ld lm:Nat} {D:Dev} (h:DevH o g ld lm D) (k:Kept t o o' g g') (h1: ¬t .dev) (h2: ¬t .mem):DevH o' g' ld lm D:=by
 obtain ⟨r,w,hd⟩:=h.hd
 exact ⟨(k.col _ _ h.od h1).1,(k.col _ _ h.om h2).1,⟨r,w,(k.col _ _ h.od h1).2.trans hd⟩,(k.col _ _ h.om h2).2.trans h.hm⟩
theorem DevH.mono {o:Col Cl} {g':G} {ld lm:Nat} {D:Dev} (h:DevH o g ld lm D) (hs:Sub g g'):DevH o g' ld lm D:=by
 obtain ⟨r,w,hd⟩:=h.hd
 exact ⟨h.od,h.om,⟨r,w,hs.live hd⟩,hs.live h.hm⟩
theorem Jb3 {l off:Nat} {cs:List Value} {bk:BK} {x y:Int} (hg:g l=some (.cells cs bk)) (hr:bk.rw=true) (hv:cs[off]? =some (.int .i64 x)) {K:Cont}
  (hK: ∀n',K (.int .i64 (IntKind.i64.wrap (x+y))) (upd g l (some (.cells (cs.set off (.int .i64 (IntKind.i64.wrap (x+y)))) bk))) n'):AC Jv [ptr l off,.int .i64 y] g n K:=by
 refine ACalls.fold Jb ?_
 rw [←ZaS]
 simp only [Zav]
 rw [Zf,Zc]
 refine Zdk ⟨rfl,?_⟩
 refine Qb (v:= .int .i64 x) hg (by simpa using hv) ⟨rfl,?_⟩
 refine ZR hg hr (by simpa using Qd hv) rfl ?_
 rw [Nat.add_zero]
 exact Ja (Sub.refl _) (hK _)
def Qca (D:Dev) (line:Int):Int:=if 0≤line∧line<D.mem.length then 0 else 12
theorem Qdv {o:Col Cl} {ld lm:Nat} {D:Dev} (h:DevH o g ld lm D) (line:Int) {K:Cont} (hK: ∀n',K (.int .i64 (Qca D line)) g n'):AC XQ [ptr ld 0,.int .i64 line] g n K:=by
 obtain ⟨r,w,hd⟩:=h.hd
 refine ACalls.fold Jb ?_
 rw [←Zb3]
 simp only [Qbz]
 rw [Zp]
 refine Zd rfl ?_
 rw [Jj]
 by_cases h0:line<0
 ·refine Jh (decide_eq_true h0) ?_
  have e:Qca D line=12:=by unfold Qca;rw [if_neg (by omega)]
  rw [e] at hK;exact Ja (Sub.refl _) (hK _)
 refine Zd (decide_eq_false h0) ?_
 rw [Zf,Zc]
 refine Qb hd rfl ?_
 simp only [Zcb]
 rw [QK]
 by_cases h1:(D.mem.length:Int)≤line
 ·refine Jh (decide_eq_true h1) ?_
  have e:Qca D line=12:=by unfold Qca;rw [if_neg (by omega)]
  rw [e] at hK;exact Ja (Sub.refl _) (hK _)
 refine Zd (decide_eq_false h1) ?_
 have e:Qca D line=0:=by unfold Qca;rw [if_pos (by omega)]
 rw [e] at hK;exact Ja (Sub.refl _) (hK _)
def Dev.get (D:Dev) (line:Int):Ln:=if 0≤line then D.mem.getD line.toNat zeroL else zeroL
theorem ZgG {l:Nat} {x z:Ln} {K:G→Prop} (h:g l=some (.cells (Xl z) .exact)) (k:upd g l (some (.cells (Xl x) .exact)) l=some (.cells (Xl x) .exact)→K (upd g l (some (.cells (Xl x) .exact)))):(Xl x).length=8∧Xw g l 0 (Xl x) K:=by
 refine ⟨Jd _,XB h rfl (by rw [Jd,Jd];decide) (QG _) ?_⟩
 rw [Xv (by rw [Jd,Jd])]
 exact k (Xa _ _ _)
theorem Jeo {o:Col Cl} {ld lm:Nat} {D:Dev} (hL:Live o g) (h:DevH o g ld lm D) (line:Int) {K:Cont}
  (hK: ∀g' n',Kept Zaz o o g g'→Live o g'→DevH o g' ld lm D→K (.tuple #[.agg (Xl (if Qca D line=0 then D.get line else zeroL)).toArray,.int .i64 (Qca D line)]) g' n'):AC Zaq [ptr ld 0,.int .i64 line] g n K:=by
 refine ACalls.fold Jb ?_
 rw [←QbV]
 simp only [Qbe,Jz]
 intro hn
 have s1:Sub g (upd g n (some (.cells (Xl zeroL) .exact))):=(Sub.refl g).new hn _
 have hz:upd g n (some (.cells (Xl zeroL) .exact)) n=some (.cells (Xl zeroL) .exact):=Xa _ _ _
 change AC XQ [ptr ld 0,.int .i64 line] (upd g n (some (.cells (Xl zeroL) .exact))) (n+1) _
 generalize upd g n (some (.cells (Xl zeroL) .exact))=g1 at s1 hz
 have h1:=h.mono s1
 have hno:o n=none:=hL.fresh hn
 refine Qdv h1 line (fun n2=> ?_)
 rw [Jam]
 by_cases he:Qca D line=0
 ·rw [if_pos he,he] at hK
  refine Zd (by rw [he];rfl) ?_
  have hr:0≤line∧line<D.mem.length:=by
   unfold Qca at he;split at he
   ·assumption
   ·cases he
  obtain ⟨k,rfl⟩: ∃k:Nat,line=k:=⟨line.toNat,by omega⟩
  obtain ⟨r,w,hd⟩:=h1.hd
  rw [Zf,Zc]
  refine Jb3 hd rfl rfl (fun n3=> ?_)
  rw [Zf,Zc]
  refine Qb (Xa _ _ _) rfl ?_
  refine Qv (by omega) (by omega) ?_
  rw [Zc]
  have hm2:upd g1 ld (some (.cells ([.slice (some ⟨lm,0,none⟩) D.mem.length D.mem.length,.int .i64 (D.vol:Nat),.int .i64 r,.int .i64 w].set (0+2) (.int .i64 (IntKind.i64.wrap (r+1)))) .exact)) lm=some (.cells (D.mem.map Xl).flatten .exact):=by rw [Xc _ _ h1.ne.symm];exact h1.hm
  have hget:D.mem[k]? =some (D.get k):=by
   unfold Dev.get
   rw [if_pos (by omega),Int.toNat_natCast,List.getD_eq_getElem?_getD,List.getElem?_eq_getElem (by omega)];rfl
  have e0:0+(k:Int).toNat*8=k*8:=by rw [Int.toNat_natCast,Nat.zero_add]
  rw [e0]
  refine Blk1.ldN (enc:=Xl) Jd hm2 hget ?_
  rw [Qf]
  have hnd:n≠ld:=fun e=>by have:=h.od;rw [←e,hno] at this;cases this
  refine ZgG (z:=zeroL) (by rw [Xc _ _ hnd];exact hz) (fun hz5=> ?_)
  refine ldL hz5 ?_
  have hnm:n≠lm:=fun e=>by have:=h.om;rw [←e,hno] at this;cases this
  refine Ja (Sub.refl _) (hK _ _ (((Kept.of_sub hL s1).trans (Kept.upd (t:=Zaz) h.od (.inl rfl) _)).fresh hn hno _) (((hL.sub s1).upd _ _).upd _ _) ⟨h.od,h.om,⟨IntKind.i64.wrap (r+1),w,?_⟩,?_⟩)
  ·rw [Xc _ _ hnd.symm,Xa];rfl
  ·rw [Xc _ _ hnm.symm];exact hm2
 ·rw [if_neg he] at hK
  refine Jh (decide_eq_true he) ?_
  change Jl (.agg (Xl zeroL).toArray) _
  rw [Qf]
  refine ZgG hz (fun hz5=> ?_)
  refine ldL hz5 ?_
  have hnd:n≠ld:=fun e=>by have:=h.od;rw [←e,hno] at this;cases this
  have hnm:n≠lm:=fun e=>by have:=h.om;rw [←e,hno] at this;cases this
  obtain ⟨r,w,hd⟩:=h1.hd
  exact Ja (Sub.refl _) (hK _ _ ((Kept.of_sub hL s1).fresh hn hno _) ((hL.sub s1).upd _ _) ⟨h.od,h.om,⟨r,w,by rw [Xc _ _ hnd.symm];exact hd⟩,by rw [Xc _ _ hnm.symm];exact h1.hm⟩)
def Dev.put (D:Dev) (line:Int) (x:Ln):Dev:=if Qca D line=0 then ⟨D.mem.set line.toNat x,D.vol⟩ else D
theorem JdZ {o:Col Cl} {ld lm:Nat} {D:Dev} (hL:Live o g) (h:DevH o g ld lm D) (line:Int) (x:Ln) {K:Cont}
  (hK: ∀g' n',Kept Zaz o o g g'→Live o g'→DevH o g' ld lm (D.put line x)→K (.int .i64 (Qca D line)) g' n'):AC Qaj [ptr ld 0,.int .i64 line,.agg (Xl x).toArray] g n K:=by
 refine ACalls.fold Jb ?_
 rw [←JbH]
 simp only [Qa6,Qf]
 intro hn
 have s1:Sub g (upd g n (some (.cells (Xl x) .exact))):=(Sub.refl g).new hn _
 have hz:upd g n (some (.cells (Xl x) .exact)) n=some (.cells (Xl x) .exact):=Xa _ _ _
 generalize upd g n (some (.cells (Xl x) .exact))=g1 at s1 hz
 have h1:=h.mono s1
 have hno:o n=none:=hL.fresh hn
 refine Qdv h1 line (fun n2=> ?_)
 rw [Jam]
 by_cases he:Qca D line=0
 ·have hp:D.put line x=⟨D.mem.set line.toNat x,D.vol⟩:=by unfold Dev.put;rw [if_pos he]
  rw [hp,he] at hK
  refine Zd (by rw [he];rfl) ?_
  have hr:0≤line∧line<D.mem.length:=by
   unfold Qca at he;split at he
   ·assumption
   ·cases he
  obtain ⟨k,rfl⟩: ∃k:Nat,line=k:=⟨line.toNat,by omega⟩
  obtain ⟨r,w,hd⟩:=h1.hd
  rw [Zf,Zc]
  refine Jb3 hd rfl rfl (fun n3=> ?_)
  rw [Zf,Zc]
  refine Qb (Xa _ _ _) rfl ?_
  have hnd:n≠ld:=fun e=>by have:=h.od;rw [←e,hno] at this;cases this
  have hnm:n≠lm:=fun e=>by have:=h.om;rw [←e,hno] at this;cases this
  refine ldL (x:=x) (by rw [Xc _ _ hnd];exact hz) ?_
  refine Qv (by omega) (by omega) ?_
  rw [Zc]
  have hm2:upd g1 ld (some (.cells ([.slice (some ⟨lm,0,none⟩) D.mem.length D.mem.length,.int .i64 (D.vol:Nat),.int .i64 r,.int .i64 w].set (0+3) (.int .i64 (IntKind.i64.wrap (w+1)))) .exact)) lm=some (.cells (D.mem.map Xl).flatten .exact):=by rw [Xc _ _ h1.ne.symm];exact h1.hm
  have e0:0+(k:Int).toNat*8=k*8:=by rw [Int.toNat_natCast,Nat.zero_add]
  rw [e0]
  refine ⟨Jd _,Blk1.stN (enc:=Xl) Jd QG hm2 rfl (by omega) (fun hb=> ?_)⟩
  refine Ja (Sub.refl _) (hK _ _ (((Kept.of_sub hL s1).trans (Kept.upd (t:=Zaz) h.od (.inl rfl) _)).trans (Kept.upd (t:=Zaz) h.om (.inr rfl) _)) (((hL.sub s1).upd _ _).upd _ _) ⟨h.od,h.om,⟨r,IntKind.i64.wrap (w+1),?_⟩,?_⟩)
  ·rw [Xc _ _ h1.ne,Xa,List.length_set];rfl
  ·rw [Int.toNat_natCast];exact hb
 ·have hp:D.put line x=D:=by unfold Dev.put;rw [if_neg he]
  rw [hp] at hK
  refine Jh (decide_eq_true he) ?_
  exact Ja (Sub.refl _) (hK _ _ (Kept.of_sub hL s1) (hL.sub s1) h1)
def Dev.fail (D:Dev):Dev:=⟨List.replicate D.vol zeroL++D.mem.drop D.vol,D.vol⟩
theorem XeJ {o:Col Cl} {ld lm:Nat} {D:Dev} (hL:Live o g) (h:DevH o g ld lm D) (hv:1≤D.vol∧D.vol<D.mem.length∧D.mem.length≤64) {K:Cont}
  (hK: ∀g' n',Kept Zaz o o g g'→Live o g'→DevH o g' ld lm D.fail→K (.tuple #[]) g' n'):AC Z0 [ptr ld 0] g n K:=by
 obtain ⟨r,w,hd⟩:=h.hd
 refine ACalls.fold Jb ?_
 rw [←ZbN]
 simp only [Xbh]
 rw [ZeJ]
 refine Jh rfl ?_
 rw [Zf,Zc]
 refine Qb hd rfl ?_
 rw [Zf,Zc]
 refine Qb hd rfl ?_
 refine JbL (.inl ⟨by unfold LC;omega,Nat.le_refl _⟩) (by omega) ?_
 show Jav (.slice (some ⟨lm,0,none⟩) D.vol D.mem.length) (Xl zeroL) g _
 simp only [Jav]
 rw [if_neg (by simp [Xl];refine ⟨by omega,?_⟩;intro e;have:=zeroL.2;rw [e] at this;cases this)]
 have hlen:(D.mem.map Xl).flatten.length=D.mem.length*8:=Zk Xl 8 Jd _
 have hrl:(reps D.vol (Xl zeroL)).length=D.vol*8:=by rw [Qam,Zk Xl 8 Jd,List.length_replicate]
 refine XB h.hm rfl (by rw [hlen,hrl];omega) ?_ ?_
 ·intro v hv
  rw [Qam] at hv
  obtain ⟨l,hl,hw⟩:=List.mem_flatten.1 hv
  obtain ⟨y,_,rfl⟩:=List.mem_map.1 hl
  exact QG y v hw
 have e:splice (D.mem.map Xl).flatten 0 (reps D.vol (Xl zeroL))=(D.fail.mem.map Xl).flatten:=by
  have h3:=ZaF (enc:=Xl) (z:=8) Jd D.mem (List.replicate D.vol zeroL) 0 (by simp;omega)
  rw [Nat.zero_mul] at h3
  rw [Qam,h3]
  simp [Dev.fail]
 rw [e]
 refine Ja (Sub.refl _) (hK _ _ (Kept.upd (t:=Zaz) h.om (.inr rfl) _) (hL.upd _ _) ⟨h.od,h.om,⟨r,w,?_⟩,Xa _ _ _⟩)
 rw [Xc _ _ h.ne,hd]
 have:D.fail.mem.length=D.mem.length:=by simp [Dev.fail];omega
 rw [this];rfl
end Go.Proofs.YtmchcjaomcdbmaaGreat.Gen
namespace Go.Proofs.YtmchcjaomcdbmaaGreat.Gen
open Go Go.Proofs.YtmchcjaomcdbmaaGreat.Abs Go.RowKit
variable {g:G} {n:Nat}
theorem Jfo (k:Nat):reps k [.int .u64 0,.int .u64 0,.int .u64 0,.int .u64 0,.int .u64 0,.int .u64 0,.int .u64 0,.int .u64 0]=((List.replicate k zeroL).map Xl).flatten:=Qam (enc:=Xl) zeroL k
theorem Zfl {o:Col Cl} (hL:Live o g) {lines vol:Nat} (h1:2≤lines) (h2:lines≤64) (h3:1≤vol) (h4:vol<lines) {K:Cont}
  (hK: ∀ld lm o' g' n',Kept Zaz o o' g g'→Live o' g'→Sub g g'→DevH o' g' ld lm ⟨List.replicate lines zeroL,vol⟩→K (.tuple #[ptr ld 0,.int .i64 0]) g' n'):AC XaX [.int .i64 (lines:Nat),.int .i64 (vol:Nat)] g n K:=by
 refine ACalls.fold Jb ?_
 rw [←Qep]
 simp only [Xfd]
 rw [Jj]
 refine Zd (decide_eq_false (by omega)) ?_
 rw [Zbs]
 refine Zd (decide_eq_false (by omega)) ?_
 rw [Jj]
 refine Zd (decide_eq_false (by omega)) ?_
 rw [Qfw,Xn (by omega) (by omega),Zbs]
 refine Zd (decide_eq_false (by omega)) ?_
 refine ⟨by omega,by omega,by omega,by omega,?_⟩
 intro hn
 simp only [Int.toNat_natCast]
 rw [Jfo]
 refine ⟨rfl,by simp,rfl,by simp,?_⟩
 simp only [Jz,Qf]
 intro hn2
 have hno:o n=none:=hL.fresh hn
 have hne:n≠n+1:=by omega
 have hL1:=hL.new n Cl.mem (.cells ((List.replicate lines zeroL).map Xl).flatten .exact)
 have hno2:upd o n (some Cl.mem) (n+1)=none:=hL1.fresh hn2
 refine Ja (Sub.refl _) (hK (n+1) n _ _ _ ((Kept.new (t:=Zaz) (c:= .mem) hno hn (.inr rfl) _).trans (Kept.new (t:=Zaz) (c:= .dev) hno2 hn2 (.inl rfl) _)) (hL1.new (n+1) Cl.dev _) (((Sub.refl g).new hn _).new hn2 _) ⟨Xa _ _ _,by rw [Xc _ _ hne,Xa],⟨0,0,?_⟩,by rw [Xc _ _ hne,Xa]⟩)
 rw [Xa,List.length_replicate];rfl
theorem JdI {v:Value} {l off m c:Nat} {xs:List Ln} (hv:v= .slice (some ⟨l,off,none⟩) m c) (h:Sl Xl 8 g v xs) (hne:xs≠[]) (hlen:xs.length<1000000) {K:Cont}
  (hK: ∀lb g' n',Sub g g'→g lb=none→g' lb=some (.cells (xs.map Xl).flatten (.loose 8))→K (.slice (some ⟨lb,0,none⟩) xs.length (LC+8)) g' n'):AC Qx [v] g n K:=by
 subst hv
 refine ACalls.fold Jb ?_
 rw [←Zal]
 simp only [JR,Zc1]
 refine Zd rfl ?_
 simp only [Jz]
 intro hn
 have hs:=(Sub.refl g).new hn (some (.cells (reps 0 [.int .u64 0,.int .u64 0,.int .u64 0,.int .u64 0,.int .u64 0,.int .u64 0,.int .u64 0,.int .u64 0]) .exact))
 obtain rfl:m=xs.length:=by obtain ⟨a,c,e,_⟩:=id h;cases e;rfl
 have hx:0<xs.length:=by cases xs with
  | nil=>exact absurd rfl hne
  | cons x xs=>simp
 refine ⟨by decide,by omega,by omega,Rd.elems (h.mono hs) ⟨?_,?_⟩⟩
 ·intro w hw
  obtain ⟨l,hl,hw⟩:=List.mem_flatten.1 hw
  obtain ⟨y,_,rfl⟩:=List.mem_map.1 hl
  exact QG y w hw
 rw [if_pos (by unfold LC;decide),if_neg (by omega)]
 refine Rd.elems (Rd.lit (Xa _ _ _) rfl) ?_
 intro hn2
 simp only [Nat.zero_add]
 refine Ja (Sub.refl _) (hK _ _ _ (hs.new hn2 _) (hs.none hn2) ?_)
 rw [Xa];rfl
theorem DevH.sl {o:Col Cl} {ld lm:Nat} {D:Dev} (h:DevH o g ld lm D):Sl Xl 8 g (.slice (some ⟨lm,0,none⟩) D.mem.length D.mem.length) D.mem:=Rd.lit h.hm (Zk Xl 8 Jd _)
theorem Xd1 {o:Col Cl} {ld lm:Nat} {D:Dev} (h:DevH o g ld lm D) (hne:D.mem≠[]) (hlen:D.mem.length≤64) {K:Cont}
  (hK: ∀lb g' n',Sub g g'→g lb=none→g' lb=some (.cells (D.mem.map Xl).flatten (.loose 8))→K (.slice (some ⟨lb,0,none⟩) D.mem.length (LC+8)) g' n'):AC Zah [ptr ld 0] g n K:=by
 obtain ⟨r,w,hd⟩:=h.hd
 refine ACalls.fold Jb ?_
 rw [←JbD]
 simp only [Zbb]
 rw [Zp]
 refine Zd rfl ?_
 rw [Zf,Zc]
 refine Qb hd rfl ?_
 exact JdI rfl h.sl hne (by omega) (fun lb g' n' a b c=>Ja (Sub.refl _) (hK _ _ _ a b c))
theorem Jc8 {o:Col Cl} {ld lm:Nat} {D:Dev} {v:Value} {img:List Ln} (hL:Live o g) (h:DevH o g ld lm D) (hv:Sl Xl 8 g v img) (hl:img.length=D.mem.length) (hne:img≠[]) {K:Cont}
  (hK: ∀g' n',Kept Zaz o o g g'→Live o g'→DevH o g' ld lm ⟨img,D.vol⟩→K (.int .i64 0) g' n'):AC XL [ptr ld 0,v] g n K:=by
 obtain ⟨r,w,hd⟩:=h.hd
 refine ACalls.fold Jb ?_
 rw [←Qbo]
 simp only [ZaL]
 rw [Zp]
 refine Zd rfl ?_
 refine hv.len ?_
 rw [Zf,Zc]
 refine Qb hd rfl ?_
 simp only [Zcb]
 rw [Jam]
 refine Zd (decide_eq_false (by rw [hl];simp)) ?_
 rw [Zf,Zc]
 refine Qb hd rfl ?_
 obtain ⟨av,cv,rfl⟩: ∃a c,v= .slice a img.length c:=by obtain ⟨a,c,e,_⟩:=id hv;exact ⟨a,c,e⟩
 show Zbk (.slice (some ⟨lm,0,none⟩) D.mem.length D.mem.length) (.slice av img.length cv) 8 g _
 simp only [Zbk]
 rw [hl,Nat.min_self,←hl]
 refine Rd.elems hv ⟨?_,?_⟩
 ·intro w hw
  obtain ⟨l,hl,hw⟩:=List.mem_flatten.1 hw
  obtain ⟨y,_,rfl⟩:=List.mem_map.1 hl
  exact QG y w hw
 have hfl:(img.map Xl).flatten.length=img.length*8:=Zk Xl 8 Jd _
 have hdl:(D.mem.map Xl).flatten.length=D.mem.length*8:=Zk Xl 8 Jd _
 have hx:0<img.length:=by cases img with
  | nil=>exact absurd rfl hne
  | cons x xs=>simp
 rw [if_neg (fun e=>by rw [e] at hfl;simp at hfl;omega)]
 refine XB h.hm rfl (by omega) ?_ ?_
 ·intro w hw
  obtain ⟨l,hl,hw⟩:=List.mem_flatten.1 hw
  obtain ⟨y,_,rfl⟩:=List.mem_map.1 hl
  exact QG y w hw
 rw [Xv (by omega)]
 refine Ja (Sub.refl _) (hK _ _ (Kept.upd (t:=Zaz) h.om (.inr rfl) _) (hL.upd _ _) ⟨h.od,h.om,⟨r,w,?_⟩,Xa _ _ _⟩)
 rw [Xc _ _ h.ne,hd]
 show _=some (Blk.cells [.slice (some ⟨lm,0,none⟩) img.length img.length,_,_,_] .exact)
 rw [hl]
end Go.Proofs.YtmchcjaomcdbmaaGreat.Gen
