import Derived.ChangeAlike
import Derived.Defers
import Derived.KernelRfl
import Derived.Laws.LoneSync
import Derived.Laws.Pointers
import Derived.RegionCalls
import Derived.RegionTactic
import Derived.Tactics
import Derived.Tactics2
import Derived.Test.YtiegodhlhidiiaaGreatGenCoreNone
/- What the functions come to. -/
set_option linter.all false
set_option linter.deprecated false
namespace Go.Proofs.YtiegodhlhidiiaaGreat.Gen
open Go Go.Proofs.YtiegodhlhidiiaaGreat.Abs
/-! sync.Once and its lock, on the concrete side -/
theorem o_disable (w : World) : (callFunc 121 #[]).run Tryz.prog w = .ok (.value (.tuple #[])) w := run_call_mark0 Tryz.func121 (by kernel_rfl) (by kernel_rfl) (by kernel_rfl) .disable (by kernel_rfl) w
theorem o_enable (w : World) : (callFunc 123 #[]).run Tryz.prog w = .ok (.value (.tuple #[])) w := run_call_mark0 Tryz.func123 (by kernel_rfl) (by kernel_rfl) (by kernel_rfl) .enable (by kernel_rfl) w
theorem o_acquire (a : Addr) (w : World) : (callFunc 124 #[.pointer (some a)]).run Tryz.prog w = .ok (.value (.tuple #[])) w := run_call_marked Tryz.func124 (by kernel_rfl) (by kernel_rfl) (by kernel_rfl) .acquire (by kernel_rfl) a w
theorem o_release (a : Addr) (w : World) : (callFunc 126 #[.pointer (some a)]).run Tryz.prog w = .ok (.value (.tuple #[])) w := run_call_marked Tryz.func126 (by kernel_rfl) (by kernel_rfl) (by kernel_rfl) .releaseMerge (by kernel_rfl) a w
set_option maxRecDepth 100000 in
set_option maxHeartbeats 1600000 in
theorem o_store (a : Addr) (x : Value) (u : FrameMode) (w : World) (hc : w.cell? a = some x) (hz : w.frozen? a = false) :
    CallsD Tryz.prog 80 #[.pointer (some a), .bool true] u w fun e u' w' => u' = u ∧ (e = .returned (.tuple #[]) ∧ w' = w.drew.setCell a (.int .u32 1)) := by
  have hc' : w.drew.cell? a = some x := by go_simp
  have hz' : w.drew.frozen? a = false := by go_simp
  have hst := run_call_store (P := Tryz.prog) Tryz.func104 (by kernel_rfl) (by kernel_rfl) (by kernel_rfl) (by kernel_rfl) (k := .u32) (y := 1) hc' hz'
  go_enter_d Tryz.func80, Tryz.ntmps80
  go_wp2
  go_region_calls
  all_goals (go_end0; exact ⟨rfl, rfl⟩)
set_option maxRecDepth 100000 in
set_option maxHeartbeats 1600000 in
theorem o_unlock (a : Addr) (u : FrameMode) (w : World) (hc : w.cell? a = some (.int .i32 1)) (hz : w.frozen? a = false) :
    CallsD Tryz.prog 79 #[.pointer (some a)] u w fun e u' w' => u' = u ∧ (e = .returned (.tuple #[]) ∧ w' = w.setCell a (.int .i32 0)) := by
  have hd := o_disable
  have he := o_enable
  have hr := o_release
  have hadd := run_call_add (P := Tryz.prog) Tryz.func127 (by kernel_rfl) (by kernel_rfl) (by kernel_rfl) .i32 (by kernel_rfl) (y := -1) (s := 0) hc hz (by simp [go_sem]; rfl)
  have hcv := run_convert_to_unsafe (P := Tryz.prog) (src := 208) (dst := 212) Tryz.underlying208 Tryz.underlying212 (by kernel_rfl) hc
  go_enter_d Tryz.func79, Tryz.ntmps79
  go_wp2
  go_end0
  go_wp2
  go_end0
  exact ⟨rfl, rfl⟩
set_option maxRecDepth 100000 in
set_option maxHeartbeats 1600000 in
theorem o_lock (a : Addr) (w : World) (hc : w.cell? a = some (.int .i32 0)) (hz : w.frozen? a = false) :
    Calls Tryz.prog 78 #[.pointer (some a)] w fun e w' => e = .returned (.tuple #[]) ∧ w' = w.setCell a (.int .i32 1) := by
  have hd := o_disable
  have he := o_enable
  have ha := o_acquire
  have hcas := run_call_cas_hit (P := Tryz.prog) Tryz.func122 (by kernel_rfl) (by kernel_rfl) (by kernel_rfl) .i32 (by kernel_rfl) (y := 1) hc hz
  have hc' : (w.setCell a (.int .i32 1)).cell? a = some (.int .i32 1) := World.cell?_setCell_same w a _ hc
  have hcv := run_convert_to_unsafe (P := Tryz.prog) (src := 208) (dst := 212) Tryz.underlying208 Tryz.underlying212 (by kernel_rfl) hc'
  go_enter Tryz.func78, Tryz.ntmps78
  go_wp2
  first | go_end0 | (simp only [Exit.inBlock, Exit.then]; refine bodyPost_ret (results_none rfl _ _ _) rfl ?_) | refine bodyPost_ret (results_none rfl _ _ _) rfl ?_
  go_wp2
  go_end0
  exact ⟨rfl, rfl⟩
set_option maxRecDepth 100000 in
set_option maxHeartbeats 1600000 in
theorem o_slow37 (b off : Nat) (us vs : Array Value) (w : World) (R : Ending → World → Prop)
    (h0 : w.cell? ⟨b, off, none⟩ = some (.int .u32 0)) (h1 : w.cell? ⟨b, off + 1, none⟩ = some (.int .i32 0)) (f1 : w.frozen? ⟨b, off + 1, none⟩ = false)
    (hcb : Calls Tryz.prog 37 (us ++ #[] ++ vs) (w.setCell ⟨b, off + 1, none⟩ (.int .i32 1)) fun e w2 => (∃ v, e = .returned v) ∧ (∃ x, w2.cell? ⟨b, off, none⟩ = some x) ∧ w2.frozen? ⟨b, off, none⟩ = false ∧
      w2.cell? ⟨b, off + 1, none⟩ = some (.int .i32 1) ∧ w2.frozen? ⟨b, off + 1, none⟩ = false ∧ R (.returned (.tuple #[])) ((w2.drew.setCell ⟨b, off, none⟩ (.int .u32 1)).setCell ⟨b, off + 1, none⟩ (.int .i32 0))) :
    Calls Tryz.prog 57 #[.pointer (some ⟨b, off, none⟩), .func (.func 37) us vs] w R := by
  have hl := run_call_load (P := Tryz.prog) Tryz.func77 (by kernel_rfl) (by kernel_rfl) (by kernel_rfl) .u32 (by kernel_rfl) (w := w.setCell ⟨b, off + 1, none⟩ (.int .i32 1)) (a := ⟨b, off, none⟩) (x := 0) ((World.cell?_setCell_other _ ⟨b, off + 1, none⟩ ⟨b, off, none⟩ _ (by simp)).trans h0)
  have hnot : ∀ (x : Bool) (w : World), (Op.unary .not (.bool x)).run Tryz.prog w = .ok (.bool (!x)) w := fun _ _ => rfl
  have hinv : (callFunc 37 (us ++ #[] ++ vs)).run Tryz.prog (w.setCell ⟨b, off + 1, none⟩ (.int .i32 1)) = .ok (.enter 37 (us ++ #[] ++ vs)) (w.setCell ⟨b, off + 1, none⟩ (.int .i32 1)) := run_enter Tryz.func37 (by kernel_rfl) (by kernel_rfl)
  go_enter_defers Tryz.func57, Tryz.ntmps57
  go_wp2_with (first | (go_at_call 78; refine (o_lock ⟨b, off + 1, none⟩ _ (by go_simp) (by go_simp)).mono ?_; rintro e w' ⟨rfl, rfl⟩) | (go_at_call 56; go_in) | (go_at_call 37; refine hcb.mono ?_; rintro e w2 ⟨⟨v, rfl⟩, ⟨x, c0⟩, z0, c1, z1, hR⟩))
  refine leaves_cons (f := 80) (args := #[.pointer (some ⟨b, off, none⟩), .bool true]) (by simp) (by simp [go_sem]) ?_
  refine (o_store ⟨b, off, none⟩ x .returning _ c0 z0).mono ?_
  rintro e u' w'' ⟨rfl, rfl, rfl⟩
  refine leaves_cons (f := 79) (args := #[.pointer (some ⟨b, off + 1, none⟩)]) (by simp [settle]) (by simp [go_sem]) ?_
  refine (o_unlock ⟨b, off + 1, none⟩ _ _ ?_ (by simp [z1])).mono ?_
  · refine (World.cell?_setCell_other _ ⟨b, off, none⟩ ⟨b, off + 1, none⟩ _ (by simp)).trans ?_
    rw [World.cell?_drew]
    exact c1
  rintro e u' w'' ⟨rfl, rfl, rfl⟩
  simp [Leaves, settle, results, Tryz.results57]
  exact hR
set_option maxRecDepth 100000 in
set_option maxHeartbeats 1600000 in
theorem o_slow106 (b off : Nat) (us vs : Array Value) (w : World) (R : Ending → World → Prop)
    (h0 : w.cell? ⟨b, off, none⟩ = some (.int .u32 0)) (h1 : w.cell? ⟨b, off + 1, none⟩ = some (.int .i32 0)) (f1 : w.frozen? ⟨b, off + 1, none⟩ = false)
    (hcb : Calls Tryz.prog 106 (us ++ #[] ++ vs) (w.setCell ⟨b, off + 1, none⟩ (.int .i32 1)) fun e w2 => (∃ v, e = .returned v) ∧ (∃ x, w2.cell? ⟨b, off, none⟩ = some x) ∧ w2.frozen? ⟨b, off, none⟩ = false ∧
      w2.cell? ⟨b, off + 1, none⟩ = some (.int .i32 1) ∧ w2.frozen? ⟨b, off + 1, none⟩ = false ∧ R (.returned (.tuple #[])) ((w2.drew.setCell ⟨b, off, none⟩ (.int .u32 1)).setCell ⟨b, off + 1, none⟩ (.int .i32 0))) :
    Calls Tryz.prog 57 #[.pointer (some ⟨b, off, none⟩), .func (.func 106) us vs] w R := by
  have hl := run_call_load (P := Tryz.prog) Tryz.func77 (by kernel_rfl) (by kernel_rfl) (by kernel_rfl) .u32 (by kernel_rfl) (w := w.setCell ⟨b, off + 1, none⟩ (.int .i32 1)) (a := ⟨b, off, none⟩) (x := 0) ((World.cell?_setCell_other _ ⟨b, off + 1, none⟩ ⟨b, off, none⟩ _ (by simp)).trans h0)
  have hnot : ∀ (x : Bool) (w : World), (Op.unary .not (.bool x)).run Tryz.prog w = .ok (.bool (!x)) w := fun _ _ => rfl
  have hinv : (callFunc 106 (us ++ #[] ++ vs)).run Tryz.prog (w.setCell ⟨b, off + 1, none⟩ (.int .i32 1)) = .ok (.enter 106 (us ++ #[] ++ vs)) (w.setCell ⟨b, off + 1, none⟩ (.int .i32 1)) := run_enter Tryz.func106 (by kernel_rfl) (by kernel_rfl)
  go_enter_defers Tryz.func57, Tryz.ntmps57
  go_wp2_with (first | (go_at_call 78; refine (o_lock ⟨b, off + 1, none⟩ _ (by go_simp) (by go_simp)).mono ?_; rintro e w' ⟨rfl, rfl⟩) | (go_at_call 56; go_in) | (go_at_call 106; refine hcb.mono ?_; rintro e w2 ⟨⟨v, rfl⟩, ⟨x, c0⟩, z0, c1, z1, hR⟩))
  refine leaves_cons (f := 80) (args := #[.pointer (some ⟨b, off, none⟩), .bool true]) (by simp) (by simp [go_sem]) ?_
  refine (o_store ⟨b, off, none⟩ x .returning _ c0 z0).mono ?_
  rintro e u' w'' ⟨rfl, rfl, rfl⟩
  refine leaves_cons (f := 79) (args := #[.pointer (some ⟨b, off + 1, none⟩)]) (by simp [settle]) (by simp [go_sem]) ?_
  refine (o_unlock ⟨b, off + 1, none⟩ _ _ ?_ (by simp [z1])).mono ?_
  · refine (World.cell?_setCell_other _ ⟨b, off, none⟩ ⟨b, off + 1, none⟩ _ (by simp)).trans ?_
    rw [World.cell?_drew]
    exact c1
  rintro e u' w'' ⟨rfl, rfl, rfl⟩
  simp [Leaves, settle, results, Tryz.results57]
  exact hR
end Go.Proofs.YtiegodhlhidiiaaGreat.Gen

namespace Go.Proofs.YtiegodhlhidiiaaGreat.Gen
open Go Go.Proofs.YtiegodhlhidiiaaGreat.Abs Go.RowKit
variable {g : G} {n : Nat}
/-- told functions of this program -/
def TT1 : XTab := fun f =>
  if f = 57 then some (.slow [37, 106])
  else   if f = 77 then some (.ld .u32)
  else   if f = 92 then some (.add .i64)
  else   if f = 147 then some (.tab idxT)
  else none
set_option maxRecDepth 1000000 in
theorem TT1_ok : XTOk Tryz.prog TT1 := by
  intro f k h
  unfold TT1 at h
  split at h
  · rename_i hf; subst hf; cases h
    refine ⟨⟨_, Tryz.func57, by kernel_rfl, by kernel_rfl⟩, ?_⟩
    intro F hF
    simp only [List.mem_cons, List.not_mem_nil, or_false] at hF
    rcases hF with rfl | rfl
    · exact ⟨⟨_, Tryz.func37, by kernel_rfl, by kernel_rfl⟩, o_slow37⟩
    · exact ⟨⟨_, Tryz.func106, by kernel_rfl, by kernel_rfl⟩, o_slow106⟩
  · split at h
    · rename_i hf; subst hf; cases h
      exact ⟨_, Tryz.func77, by kernel_rfl, by kernel_rfl, by kernel_rfl, by kernel_rfl⟩
    · split at h
      · rename_i hf; subst hf; cases h
        exact ⟨_, Tryz.func92, by kernel_rfl, by kernel_rfl, by kernel_rfl, by kernel_rfl⟩
      · split at h
        · rename_i hf; subst hf; cases h
          exact idx_sim ⟨_, Tryz.func147, by kernel_rfl, by kernel_rfl, by kernel_rfl, by kernel_rfl⟩
        · cases h
end Go.Proofs.YtiegodhlhidiiaaGreat.Gen

namespace Go.Proofs.YtiegodhlhidiiaaGreat.Gen
open Go Go.Proofs.YtiegodhlhidiiaaGreat.Abs Go.RowKit
def wb0 : Option Blk := (some (.cells [(.int .i64 2), (.int .i64 6), (.int .i64 1), (.int .i64 1), (.int .i64 2), (.int .i64 2), (.int .i64 2)] .exact))
def wt1 : Tr := .node .nil wb0 .nil
def wb2 : Option Blk := (some (.cells [(.pointer (some ⟨10, 0, none⟩)), (.slice none 0 0), (.slice none 0 0), (.slice none 0 0), (.pointer (some ⟨13, 0, none⟩)), (.slice none 0 0), (.slice none 0 0), (.slice none 0 0)] .exact))
def wt3 : Tr := .node .nil wb2 .nil
def wb4 : Option Blk := (some (.cells [(.int .u64 0), (.int .u64 0), (.int .u64 0), (.int .u64 0), (.int .u64 0), (.int .u64 0), (.int .u64 0), (.int .u64 0), (.int .u64 0), (.int .u64 0), (.int .u64 0), (.int .u64 0), (.int .u64 0), (.int .u64 0), (.int .u64 0), (.int .u64 0), (.int .u64 0), (.int .u64 0), (.int .u64 0), (.int .u64 0), (.int .u64 0), (.int .u64 0), (.int .u64 0), (.int .u64 0), (.int .u64 0), (.int .u64 0), (.int .u64 0), (.int .u64 0), (.int .u64 0), (.int .u64 0), (.int .u64 0), (.int .u64 0), (.int .u64 0), (.int .u64 0), (.int .u64 0), (.int .u64 0), (.int .u64 0), (.int .u64 0), (.int .u64 0), (.int .u64 0), (.int .u64 0), (.int .u64 0), (.int .u64 0), (.int .u64 0), (.int .u64 0), (.int .u64 0), (.int .u64 0), (.int .u64 0)] .exact))
def wb5 : Option Blk := (some (.cells [(.int .i64 0), (.int .i64 0), (.int .u64 0), (.int .u64 0), (.int .u64 0), (.int .u64 0), (.int .u64 0), (.int .u64 0), (.int .u64 0), (.int .u64 0), (.int .i64 0), (.int .i64 0), (.int .i64 0), (.int .u64 0), (.int .u64 0), (.int .u64 0), (.int .u64 0), (.int .u64 0), (.int .u64 0), (.int .u64 0), (.int .u64 0), (.int .i64 0)] .exact))
def wt6 : Tr := .node .nil wb5 .nil
def wt7 : Tr := .node wt3 wb4 wt6
def wb8 : Option Blk := (some (.cells [(.int .i64 1), (.int .i64 2), (.slice (some ⟨8, 0, none⟩) 2 2), (.int .i64 0)] .exact))
def wt9 : Tr := .node .nil wb8 .nil
def wb10 : Option Blk := (some (.cells [(.pointer (some ⟨4, 0, none⟩)), (.int .i64 2), (.slice none 0 0)] .exact))
def wb11 : Option Blk := (some (.cells [(.pointer (some ⟨12, 0, none⟩))] .exact))
def wt12 : Tr := .node .nil wb11 .nil
def wt13 : Tr := .node wt9 wb10 wt12
def wt14 : Tr := .node wt7 none wt13
def wb15 : Option Blk := (some (.cells [(.slice (some ⟨3, 0, none⟩) 6 6), (.int .i64 1), (.int .i64 0), (.int .i64 0)] .exact))
def wb16 : Option Blk := (some (.cells [(.int .i64 1), (.int .i64 2), (.slice (some ⟨11, 0, none⟩) 2 2), (.int .i64 0)] .exact))
def wt17 : Tr := .node .nil wb16 .nil
def wt18 : Tr := .node wt6 wb15 wt17
def wb19 : Option Blk := (some (.cells [(.pointer (some ⟨9, 0, none⟩))] .exact))
def wt20 : Tr := .node .nil wb19 .nil
def wb21 : Option Blk := (some (.cells [(.int .i64 2), (.int .i64 6), (.int .i64 1), (.int .i64 1), (.int .i64 2), (.int .i64 2), (.int .i64 2), (.slice (some ⟨7, 0, none⟩) 2 2), (.slice (some ⟨14, 0, none⟩) 6 6), (.pointer (some ⟨5, 0, none⟩)), (.int .i64 0)] .exact))
def wb22 : Option Blk := (some (.cells [(.bool false), (.bool false), (.int .u64 0), (.int .u64 0), (.int .u64 0), (.int .u64 0), (.int .u64 0), (.int .u64 0), (.int .u64 0), (.int .u64 0), (.int .i64 (-1)), (.int .u8 0), (.int .i64 0), (.int .i64 0), (.int .u8 0), (.bool false), (.bool false), (.int .u64 0), (.int .u64 0), (.int .u64 0), (.int .u64 0), (.int .u64 0), (.int .u64 0), (.int .u64 0), (.int .u64 0), (.int .i64 (-1)), (.int .u8 0), (.int .i64 0), (.int .i64 0), (.int .u8 0), (.bool false), (.bool false), (.int .u64 0), (.int .u64 0), (.int .u64 0), (.int .u64 0), (.int .u64 0), (.int .u64 0), (.int .u64 0), (.int .u64 0), (.int .i64 (-1)), (.int .u8 0), (.int .i64 0), (.int .i64 0), (.int .u8 0), (.bool false), (.bool false), (.int .u64 0), (.int .u64 0), (.int .u64 0), (.int .u64 0), (.int .u64 0), (.int .u64 0), (.int .u64 0), (.int .u64 0), (.int .i64 (-1)), (.int .u8 0), (.int .i64 0), (.int .i64 0), (.int .u8 0), (.bool false), (.bool false), (.int .u64 0), (.int .u64 0), (.int .u64 0), (.int .u64 0), (.int .u64 0), (.int .u64 0), (.int .u64 0), (.int .u64 0), (.int .i64 (-1)), (.int .u8 0), (.int .i64 0), (.int .i64 0), (.int .u8 0), (.bool false), (.bool false), (.int .u64 0), (.int .u64 0), (.int .u64 0), (.int .u64 0), (.int .u64 0), (.int .u64 0), (.int .u64 0), (.int .u64 0), (.int .i64 (-1)), (.int .u8 0), (.int .i64 0), (.int .i64 0), (.int .u8 0)] .exact))
def wt23 : Tr := .node .nil wb22 .nil
def wt24 : Tr := .node wt20 wb21 wt23
def wt25 : Tr := .node wt18 none wt24
def wt26 : Tr := .node wt14 wb0 wt25
def wb27 : Option Blk := (some (.cells [(.int .i64 1), (.int .i64 1), (.int .i64 0), (.int .i64 0), (.int .i64 5), (.int .i64 9), (.int .i64 1), (.int .i64 0), (.int .i64 0), (.int .i64 192), (.int .i64 8), (.int .i64 2), (.int .i64 0), (.int .i64 0), (.int .i64 192), (.int .i64 8), (.int .i64 3), (.int .i64 0), (.int .i64 0), (.int .i64 193)] .exact))
def wt28 : Tr := .node .nil wb27 .nil
def wt29 : Tr := .node wt28 wb11 .nil
def wt30 : Tr := .node wt9 wb10 wt29
def wt31 : Tr := .node wt7 none wt30
def wt32 : Tr := .node wt31 wb0 wt25
def wb33 : Option Blk := (some (.cells [(.int .u64 21474836737), (.int .u64 824633721097), (.int .u64 824633721352), (.int .u64 828928688904)] (.loose 1)))
def wt34 : Tr := .node .nil wb33 .nil
def wt35 : Tr := .node wt34 wb27 .nil
def wt36 : Tr := .node wt35 wb11 .nil
def wt37 : Tr := .node wt9 wb10 wt36
def wt38 : Tr := .node wt7 none wt37
def wt39 : Tr := .node wt38 wb0 wt25
def wb40 : Option Blk := (some (.cells [(.int .u32 0), (.int .i32 0), (.int .u32 0), (.int .u64 21474836737), (.int .i64 0), (.int .i64 0), (.int .i64 0), (.int .i64 0), (.int .i64 0), (.bool false), (.int .u32 0), (.int .i32 0), (.int .u32 0), (.int .u64 824633721097), (.int .i64 0), (.int .i64 0), (.int .i64 0), (.int .i64 0), (.int .i64 0), (.bool false), (.int .u32 0), (.int .i32 0), (.int .u32 0), (.int .u64 824633721352), (.int .i64 0), (.int .i64 0), (.int .i64 0), (.int .i64 0), (.int .i64 0), (.bool false), (.int .u32 0), (.int .i32 0), (.int .u32 0), (.int .u64 828928688904), (.int .i64 0), (.int .i64 0), (.int .i64 0), (.int .i64 0), (.int .i64 0), (.bool false)] .exact))
def wt41 : Tr := .node .nil wb40 .nil
def wt42 : Tr := .node wt41 none .nil
def wt43 : Tr := .node .nil wb2 wt42
def wt44 : Tr := .node wt43 wb4 wt6
def wt45 : Tr := .node wt44 none wt37
def wb46 : Option Blk := (some (.cells [(.int .i64 0), (.int .u64 0), (.int .u64 0), (.int .u64 0), (.int .u64 0), (.int .u64 0), (.int .u64 0), (.int .u64 0), (.int .u64 0), (.int .i64 0), (.slice (some ⟨39, 0, none⟩) 4 4), (.pointer (some ⟨38, 0, none⟩)), (.int .i64 0), (.bool true)] .exact))
def wt47 : Tr := .node .nil wb46 .nil
def wt48 : Tr := .node wt47 none .nil
def wt49 : Tr := .node .nil wb5 wt48
def wt50 : Tr := .node wt49 wb15 wt17
def wb51 : Option Blk := (some (.cells [(.int .i64 0), (.int .i64 0), (.int .i64 0), (.int .u64 0), (.bool false), (.int .i64 0), (.int .i64 0), (.int .i64 0), (.int .u64 0), (.bool false), (.int .i64 0), (.int .i64 0), (.int .i64 0), (.int .u64 0), (.bool false), (.int .i64 0), (.int .i64 0), (.int .i64 0), (.int .u64 0), (.bool false), (.int .i64 0), (.int .i64 0), (.int .i64 0), (.int .u64 0), (.bool false), (.int .i64 0), (.int .i64 0), (.int .i64 0), (.int .u64 0), (.bool false), (.int .i64 0), (.int .i64 0), (.int .i64 0), (.int .u64 0), (.bool false), (.int .i64 0), (.int .i64 0), (.int .i64 0), (.int .u64 0), (.bool false), (.int .i64 0), (.int .i64 0), (.int .i64 0), (.int .u64 0), (.bool false), (.int .i64 0), (.int .i64 0), (.int .i64 0), (.int .u64 0), (.bool false), (.int .i64 0), (.int .i64 0), (.int .i64 0), (.int .u64 0), (.bool false), (.int .i64 0), (.int .i64 0), (.int .i64 0), (.int .u64 0), (.bool false), (.int .i64 0), (.int .i64 0), (.int .i64 0), (.int .u64 0), (.bool false), (.int .i64 0), (.int .i64 0), (.int .i64 0), (.int .u64 0), (.bool false), (.int .i64 0), (.int .i64 0), (.int .i64 0), (.int .u64 0), (.bool false), (.int .i64 0), (.int .i64 0), (.int .i64 0), (.int .u64 0), (.bool false), (.int .i64 2), (.int .i64 0), (.int .i64 0)] .exact))
def wt52 : Tr := .node .nil wb51 .nil
def wt53 : Tr := .node wt52 none .nil
def wt54 : Tr := .node wt53 wb22 .nil
def wt55 : Tr := .node wt20 wb21 wt54
def wt56 : Tr := .node wt50 none wt55
def wt57 : Tr := .node wt45 wb0 wt56
def wb58 : Option Blk := (some (.cells [(.int .u32 1), (.int .i32 0), (.int .u32 0), (.int .u64 21474836737), (.int .i64 1), (.int .i64 1), (.int .i64 0), (.int .i64 0), (.int .i64 5), (.bool true), (.int .u32 0), (.int .i32 0), (.int .u32 0), (.int .u64 824633721097), (.int .i64 0), (.int .i64 0), (.int .i64 0), (.int .i64 0), (.int .i64 0), (.bool false), (.int .u32 0), (.int .i32 0), (.int .u32 0), (.int .u64 824633721352), (.int .i64 0), (.int .i64 0), (.int .i64 0), (.int .i64 0), (.int .i64 0), (.bool false), (.int .u32 0), (.int .i32 0), (.int .u32 0), (.int .u64 828928688904), (.int .i64 0), (.int .i64 0), (.int .i64 0), (.int .i64 0), (.int .i64 0), (.bool false)] .exact))
def wt59 : Tr := .node .nil wb58 .nil
def wt60 : Tr := .node wt59 none .nil
def wt61 : Tr := .node .nil wb2 wt60
def wt62 : Tr := .node wt61 wb4 wt6
def wt63 : Tr := .node wt62 none wt37
def wb64 : Option Blk := (some (.cells [(.int .i64 0), (.int .u64 0), (.int .u64 5), (.int .u64 0), (.int .u64 0), (.int .u64 0), (.int .u64 0), (.int .u64 0), (.int .u64 0), (.int .i64 1), (.slice (some ⟨39, 0, none⟩) 4 4), (.pointer (some ⟨38, 0, none⟩)), (.int .i64 0), (.bool true)] .exact))
def wt65 : Tr := .node .nil wb64 .nil
def wt66 : Tr := .node wt65 none .nil
def wt67 : Tr := .node .nil wb5 wt66
def wt68 : Tr := .node wt67 wb15 wt17
def wt69 : Tr := .node wt68 none wt55
def wt70 : Tr := .node wt63 wb0 wt69
def wb71 : Option Blk := (some (.cells [(.int .u32 1), (.int .i32 0), (.int .u32 0), (.int .u64 21474836737), (.int .i64 1), (.int .i64 1), (.int .i64 0), (.int .i64 0), (.int .i64 5), (.bool true), (.int .u32 1), (.int .i32 0), (.int .u32 0), (.int .u64 824633721097), (.int .i64 9), (.int .i64 1), (.int .i64 0), (.int .i64 0), (.int .i64 192), (.bool true), (.int .u32 0), (.int .i32 0), (.int .u32 0), (.int .u64 824633721352), (.int .i64 0), (.int .i64 0), (.int .i64 0), (.int .i64 0), (.int .i64 0), (.bool false), (.int .u32 0), (.int .i32 0), (.int .u32 0), (.int .u64 828928688904), (.int .i64 0), (.int .i64 0), (.int .i64 0), (.int .i64 0), (.int .i64 0), (.bool false)] .exact))
def wt72 : Tr := .node .nil wb71 .nil
def wt73 : Tr := .node wt72 none .nil
def wt74 : Tr := .node .nil wb2 wt73
def wt75 : Tr := .node wt74 wb4 wt6
def wt76 : Tr := .node wt75 none wt37
def wb77 : Option Blk := (some (.cells [(.int .i64 0), (.int .u64 0), (.int .u64 5), (.int .u64 0), (.int .u64 0), (.int .u64 0), (.int .u64 0), (.int .u64 0), (.int .u64 0), (.int .i64 2), (.slice (some ⟨39, 0, none⟩) 4 4), (.pointer (some ⟨38, 0, none⟩)), (.int .i64 0), (.bool true)] .exact))
def wt78 : Tr := .node .nil wb77 .nil
def wt79 : Tr := .node wt78 none .nil
def wt80 : Tr := .node .nil wb5 wt79
def wt81 : Tr := .node wt80 wb15 wt17
def wb82 : Option Blk := (some (.cells [(.int .i64 12), (.int .i64 0), (.int .i64 3), (.int .i64 0), (.int .u64 5)] (.loose 5)))
def wt83 : Tr := .node .nil wb82 .nil
def wt84 : Tr := .node wt83 none .nil
def wt85 : Tr := .node wt84 none .nil
def wt86 : Tr := .node .nil wb19 wt85
def wb87 : Option Blk := (some (.cells [(.int .i64 9), (.int .i64 3), (.int .i64 0), (.int .u64 5), (.bool false), (.int .i64 0), (.int .i64 0), (.int .i64 0), (.int .u64 0), (.bool false), (.int .i64 0), (.int .i64 0), (.int .i64 0), (.int .u64 0), (.bool false), (.int .i64 0), (.int .i64 0), (.int .i64 0), (.int .u64 0), (.bool false), (.int .i64 0), (.int .i64 0), (.int .i64 0), (.int .u64 0), (.bool false), (.int .i64 0), (.int .i64 0), (.int .i64 0), (.int .u64 0), (.bool false), (.int .i64 0), (.int .i64 0), (.int .i64 0), (.int .u64 0), (.bool false), (.int .i64 0), (.int .i64 0), (.int .i64 0), (.int .u64 0), (.bool false), (.int .i64 0), (.int .i64 0), (.int .i64 0), (.int .u64 0), (.bool false), (.int .i64 0), (.int .i64 0), (.int .i64 0), (.int .u64 0), (.bool false), (.int .i64 0), (.int .i64 0), (.int .i64 0), (.int .u64 0), (.bool false), (.int .i64 0), (.int .i64 0), (.int .i64 0), (.int .u64 0), (.bool false), (.int .i64 0), (.int .i64 0), (.int .i64 0), (.int .u64 0), (.bool false), (.int .i64 0), (.int .i64 0), (.int .i64 0), (.int .u64 0), (.bool false), (.int .i64 0), (.int .i64 0), (.int .i64 0), (.int .u64 0), (.bool false), (.int .i64 0), (.int .i64 0), (.int .i64 0), (.int .u64 0), (.bool false), (.int .i64 2), (.int .i64 0), (.int .i64 1)] .exact))
def wt88 : Tr := .node .nil wb87 .nil
def wt89 : Tr := .node wt88 none .nil
def wt90 : Tr := .node wt89 wb22 .nil
def wt91 : Tr := .node wt86 wb21 wt90
def wt92 : Tr := .node wt81 none wt91
def wt93 : Tr := .node wt76 wb0 wt92
def wb94 : Option Blk := (some (.cells [(.int .u32 1), (.int .i32 0), (.int .u32 0), (.int .u64 21474836737), (.int .i64 1), (.int .i64 1), (.int .i64 0), (.int .i64 0), (.int .i64 5), (.bool true), (.int .u32 1), (.int .i32 0), (.int .u32 0), (.int .u64 824633721097), (.int .i64 9), (.int .i64 1), (.int .i64 0), (.int .i64 0), (.int .i64 192), (.bool true), (.int .u32 1), (.int .i32 0), (.int .u32 0), (.int .u64 824633721352), (.int .i64 8), (.int .i64 2), (.int .i64 0), (.int .i64 0), (.int .i64 192), (.bool true), (.int .u32 0), (.int .i32 0), (.int .u32 0), (.int .u64 828928688904), (.int .i64 0), (.int .i64 0), (.int .i64 0), (.int .i64 0), (.int .i64 0), (.bool false)] .exact))
def wt95 : Tr := .node .nil wb94 .nil
def wt96 : Tr := .node wt95 none .nil
def wt97 : Tr := .node .nil wb2 wt96
def wt98 : Tr := .node wt97 wb4 wt6
def wt99 : Tr := .node wt98 none wt37
def wb100 : Option Blk := (some (.cells [(.int .i64 0), (.int .u64 0), (.int .u64 5), (.int .u64 5), (.int .u64 0), (.int .u64 0), (.int .u64 0), (.int .u64 0), (.int .u64 0), (.int .i64 3), (.slice (some ⟨39, 0, none⟩) 4 4), (.pointer (some ⟨38, 0, none⟩)), (.int .i64 0), (.bool true)] .exact))
def wt101 : Tr := .node .nil wb100 .nil
def wt102 : Tr := .node wt101 none .nil
def wt103 : Tr := .node .nil wb5 wt102
def wb104 : Option Blk := (some (.cells [(.int .i64 2), (.int .i64 0), (.int .i64 3), (.int .i64 0), (.int .u64 5)] (.loose 5)))
def wt105 : Tr := .node .nil wb104 .nil
def wt106 : Tr := .node wt105 none .nil
def wt107 : Tr := .node .nil none wt106
def wt108 : Tr := .node .nil wb16 wt107
def wt109 : Tr := .node wt103 wb15 wt108
def wt110 : Tr := .node wt109 none wt91
def wt111 : Tr := .node wt99 wb0 wt110
def wb112 : Option Blk := (some (.cells [(.int .u32 1), (.int .i32 0), (.int .u32 0), (.int .u64 21474836737), (.int .i64 1), (.int .i64 1), (.int .i64 0), (.int .i64 0), (.int .i64 5), (.bool true), (.int .u32 1), (.int .i32 0), (.int .u32 0), (.int .u64 824633721097), (.int .i64 9), (.int .i64 1), (.int .i64 0), (.int .i64 0), (.int .i64 192), (.bool true), (.int .u32 1), (.int .i32 0), (.int .u32 0), (.int .u64 824633721352), (.int .i64 8), (.int .i64 2), (.int .i64 0), (.int .i64 0), (.int .i64 192), (.bool true), (.int .u32 1), (.int .i32 0), (.int .u32 0), (.int .u64 828928688904), (.int .i64 8), (.int .i64 3), (.int .i64 0), (.int .i64 0), (.int .i64 193), (.bool true)] .exact))
def wt113 : Tr := .node .nil wb112 .nil
def wt114 : Tr := .node wt113 none .nil
def wt115 : Tr := .node .nil wb2 wt114
def wt116 : Tr := .node wt115 wb4 wt6
def wb117 : Option Blk := (some (.cells [(.int .i64 10), (.int .i64 0), (.int .i64 0), (.int .i64 0), (.int .u64 0)] (.loose 5)))
def wt118 : Tr := .node .nil wb117 .nil
def wt119 : Tr := .node .nil none wt118
def wt120 : Tr := .node wt119 none .nil
def wt121 : Tr := .node wt35 wb11 wt120
def wt122 : Tr := .node wt9 wb10 wt121
def wt123 : Tr := .node wt116 none wt122
def wb124 : Option Blk := (some (.cells [(.int .i64 0), (.int .u64 0), (.int .u64 5), (.int .u64 5), (.int .u64 0), (.int .u64 0), (.int .u64 0), (.int .u64 0), (.int .u64 0), (.int .i64 3), (.slice (some ⟨39, 0, none⟩) 4 4), (.pointer (some ⟨38, 0, none⟩)), (.int .i64 0), (.bool false)] .exact))
def wt125 : Tr := .node .nil wb124 .nil
def wt126 : Tr := .node wt125 none .nil
def wt127 : Tr := .node .nil wb5 wt126
def wt128 : Tr := .node wt127 wb15 wt108
def wt129 : Tr := .node wt128 none wt91
def wt130 : Tr := .node wt123 wb0 wt129
abbrev wh0 : Tr := wt1
abbrev wk0 : Tr := wt26
def wr0 : Row := ⟨15, [(.agg #[(.int .i64 2), (.int .i64 6), (.int .i64 1), (.int .i64 1), (.int .i64 2), (.int .i64 2), (.int .i64 2)]), (.slice none 0 0)], wh0, 1, (.tuple #[(.pointer (some ⟨6, 0, none⟩)), (.int .i64 0)]), wk0, 21⟩
abbrev wh1 : Tr := wt32
abbrev wk1 : Tr := wt39
def wr1 : Row := ⟨17, [(.slice (some ⟨21, 0, none⟩) 4 4)], wh1, 22, (.slice (some ⟨37, 0, none⟩) 4 4611686018427387905), wk1, 38⟩
abbrev wh2 : Tr := wt39
abbrev wk2 : Tr := wt57
def wr2 : Row := ⟨6, [(.int .i64 0), (.int .i64 2), (.slice (some ⟨37, 0, none⟩) 4 4611686018427387905)], wh2, 38, (.tuple #[(.pointer (some ⟨40, 0, none⟩)), (.int .i64 0)]), wk2, 41⟩
abbrev wh3 : Tr := wt57
abbrev wk3 : Tr := wt70
def wr3 : Row := ⟨7, [(.pointer (some ⟨40, 0, none⟩)), (.pointer (some ⟨6, 0, none⟩))], wh3, 41, (.slice none 0 0), wk3, 55⟩
abbrev wh4 : Tr := wt70
abbrev wk4 : Tr := wt93
def wr4 : Row := ⟨7, [(.pointer (some ⟨40, 0, none⟩)), (.pointer (some ⟨6, 0, none⟩))], wh4, 55, (.slice (some ⟨74, 0, none⟩) 1 4611686018427387909), wk4, 75⟩
abbrev wh5 : Tr := wt93
abbrev wk5 : Tr := wt111
def wr5 : Row := ⟨7, [(.pointer (some ⟨40, 0, none⟩)), (.pointer (some ⟨6, 0, none⟩))], wh5, 75, (.slice (some ⟨92, 0, none⟩) 1 4611686018427387909), wk5, 93⟩
abbrev wh6 : Tr := wt111
abbrev wk6 : Tr := wt130
def wr6 : Row := ⟨7, [(.pointer (some ⟨40, 0, none⟩)), (.pointer (some ⟨6, 0, none⟩))], wh6, 93, (.slice (some ⟨109, 0, none⟩) 1 4611686018427387909), wk6, 110⟩
end Go.Proofs.YtiegodhlhidiiaaGreat.Gen

namespace Go.Proofs.YtiegodhlhidiiaaGreat.Gen
open Go Go.Proofs.YtiegodhlhidiiaaGreat.Abs Go.RowKit
set_option maxRecDepth 1000000 in
theorem wr0_ok : wr0.ok Tryz.prog (HT TT1) 1000 100 = true := by kernel_rfl
set_option maxRecDepth 1000000 in
theorem wr3_ok : wr3.ok Tryz.prog (HT TT1) 1000 100 = true := by kernel_rfl
set_option maxRecDepth 1000000 in
theorem wr6_ok : wr6.ok Tryz.prog (HT TT1) 1000 100 = true := by kernel_rfl
end Go.Proofs.YtiegodhlhidiiaaGreat.Gen
