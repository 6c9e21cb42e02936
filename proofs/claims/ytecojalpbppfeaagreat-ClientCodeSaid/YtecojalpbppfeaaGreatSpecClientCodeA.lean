import Derived.ChangeAlike
import Derived.Defers
import Derived.KernelRfl
import Derived.Laws.LoneSync
import Derived.Laws.Pointers
import Derived.RegionCalls
import Derived.RegionTactic
import Derived.Tactics
import Derived.Tactics2
import Derived.Test.YtecojalpbppfeaaGreatGenClientCode
/- What the functions come to. -/
set_option linter.all false
set_option linter.deprecated false
namespace Go.Proofs.YtecojalpbppfeaaGreat.Gen
open Go Go.Proofs.YtecojalpbppfeaaGreat.Abs
/-! sync.Once and its lock, on the concrete side -/
theorem o_disable (w : World) : (callFunc 152 #[]).run Tryz.prog w = .ok (.value (.tuple #[])) w := run_call_mark0 Tryz.func152 (by kernel_rfl) (by kernel_rfl) (by kernel_rfl) .disable (by kernel_rfl) w
theorem o_enable (w : World) : (callFunc 154 #[]).run Tryz.prog w = .ok (.value (.tuple #[])) w := run_call_mark0 Tryz.func154 (by kernel_rfl) (by kernel_rfl) (by kernel_rfl) .enable (by kernel_rfl) w
theorem o_acquire (a : Addr) (w : World) : (callFunc 155 #[.pointer (some a)]).run Tryz.prog w = .ok (.value (.tuple #[])) w := run_call_marked Tryz.func155 (by kernel_rfl) (by kernel_rfl) (by kernel_rfl) .acquire (by kernel_rfl) a w
theorem o_release (a : Addr) (w : World) : (callFunc 157 #[.pointer (some a)]).run Tryz.prog w = .ok (.value (.tuple #[])) w := run_call_marked Tryz.func157 (by kernel_rfl) (by kernel_rfl) (by kernel_rfl) .releaseMerge (by kernel_rfl) a w
set_option maxRecDepth 100000 in
set_option maxHeartbeats 1600000 in
theorem o_store (a : Addr) (x : Value) (u : FrameMode) (w : World) (hc : w.cell? a = some x) (hz : w.frozen? a = false) :
    CallsD Tryz.prog 140 #[.pointer (some a), .bool true] u w fun e u' w' => u' = u ∧ (e = .returned (.tuple #[]) ∧ w' = w.drew.setCell a (.int .u32 1)) := by
  have hc' : w.drew.cell? a = some x := by go_simp
  have hz' : w.drew.frozen? a = false := by go_simp
  have hst := run_call_store (P := Tryz.prog) Tryz.func146 (by kernel_rfl) (by kernel_rfl) (by kernel_rfl) (by kernel_rfl) (k := .u32) (y := 1) hc' hz'
  go_enter_d Tryz.func140, Tryz.ntmps140
  go_wp2
  go_region_calls
  all_goals (go_end0; exact ⟨rfl, rfl⟩)
set_option maxRecDepth 100000 in
set_option maxHeartbeats 1600000 in
theorem o_unlock (a : Addr) (u : FrameMode) (w : World) (hc : w.cell? a = some (.int .i32 1)) (hz : w.frozen? a = false) :
    CallsD Tryz.prog 139 #[.pointer (some a)] u w fun e u' w' => u' = u ∧ (e = .returned (.tuple #[]) ∧ w' = w.setCell a (.int .i32 0)) := by
  have hd := o_disable
  have he := o_enable
  have hr := o_release
  have hadd := run_call_add (P := Tryz.prog) Tryz.func158 (by kernel_rfl) (by kernel_rfl) (by kernel_rfl) .i32 (by kernel_rfl) (y := -1) (s := 0) hc hz (by simp [go_sem]; rfl)
  have hcv := run_convert_to_unsafe (P := Tryz.prog) (src := 183) (dst := 187) Tryz.underlying183 Tryz.underlying187 (by kernel_rfl) hc
  go_enter_d Tryz.func139, Tryz.ntmps139
  go_wp2
  go_end0
  go_wp2
  go_end0
  exact ⟨rfl, rfl⟩
set_option maxRecDepth 100000 in
set_option maxHeartbeats 1600000 in
theorem o_lock (a : Addr) (w : World) (hc : w.cell? a = some (.int .i32 0)) (hz : w.frozen? a = false) :
    Calls Tryz.prog 138 #[.pointer (some a)] w fun e w' => e = .returned (.tuple #[]) ∧ w' = w.setCell a (.int .i32 1) := by
  have hd := o_disable
  have he := o_enable
  have ha := o_acquire
  have hcas := run_call_cas_hit (P := Tryz.prog) Tryz.func153 (by kernel_rfl) (by kernel_rfl) (by kernel_rfl) .i32 (by kernel_rfl) (y := 1) hc hz
  have hc' : (w.setCell a (.int .i32 1)).cell? a = some (.int .i32 1) := World.cell?_setCell_same w a _ hc
  have hcv := run_convert_to_unsafe (P := Tryz.prog) (src := 183) (dst := 187) Tryz.underlying183 Tryz.underlying187 (by kernel_rfl) hc'
  go_enter Tryz.func138, Tryz.ntmps138
  go_wp2
  first | go_end0 | (simp only [Exit.inBlock, Exit.then]; refine bodyPost_ret (results_none rfl _ _ _) rfl ?_) | refine bodyPost_ret (results_none rfl _ _ _) rfl ?_
  go_wp2
  go_end0
  exact ⟨rfl, rfl⟩
set_option maxRecDepth 100000 in
set_option maxHeartbeats 1600000 in
theorem o_slow93 (b off : Nat) (us vs : Array Value) (w : World) (R : Ending → World → Prop)
    (h0 : w.cell? ⟨b, off, none⟩ = some (.int .u32 0)) (h1 : w.cell? ⟨b, off + 1, none⟩ = some (.int .i32 0)) (f1 : w.frozen? ⟨b, off + 1, none⟩ = false)
    (hcb : Calls Tryz.prog 93 (us ++ #[] ++ vs) (w.setCell ⟨b, off + 1, none⟩ (.int .i32 1)) fun e w2 => (∃ v, e = .returned v) ∧ (∃ x, w2.cell? ⟨b, off, none⟩ = some x) ∧ w2.frozen? ⟨b, off, none⟩ = false ∧
      w2.cell? ⟨b, off + 1, none⟩ = some (.int .i32 1) ∧ w2.frozen? ⟨b, off + 1, none⟩ = false ∧ R (.returned (.tuple #[])) ((w2.drew.setCell ⟨b, off, none⟩ (.int .u32 1)).setCell ⟨b, off + 1, none⟩ (.int .i32 0))) :
    Calls Tryz.prog 122 #[.pointer (some ⟨b, off, none⟩), .func (.func 93) us vs] w R := by
  have hl := run_call_load (P := Tryz.prog) Tryz.func137 (by kernel_rfl) (by kernel_rfl) (by kernel_rfl) .u32 (by kernel_rfl) (w := w.setCell ⟨b, off + 1, none⟩ (.int .i32 1)) (a := ⟨b, off, none⟩) (x := 0) ((World.cell?_setCell_other _ ⟨b, off + 1, none⟩ ⟨b, off, none⟩ _ (by simp)).trans h0)
  have hnot : ∀ (x : Bool) (w : World), (Op.unary .not (.bool x)).run Tryz.prog w = .ok (.bool (!x)) w := fun _ _ => rfl
  have hinv : (callFunc 93 (us ++ #[] ++ vs)).run Tryz.prog (w.setCell ⟨b, off + 1, none⟩ (.int .i32 1)) = .ok (.enter 93 (us ++ #[] ++ vs)) (w.setCell ⟨b, off + 1, none⟩ (.int .i32 1)) := run_enter Tryz.func93 (by kernel_rfl) (by kernel_rfl)
  go_enter_defers Tryz.func122, Tryz.ntmps122
  go_wp2_with (first | (go_at_call 138; refine (o_lock ⟨b, off + 1, none⟩ _ (by go_simp) (by go_simp)).mono ?_; rintro e w' ⟨rfl, rfl⟩) | (go_at_call 121; go_in) | (go_at_call 93; refine hcb.mono ?_; rintro e w2 ⟨⟨v, rfl⟩, ⟨x, c0⟩, z0, c1, z1, hR⟩))
  refine leaves_cons (f := 140) (args := #[.pointer (some ⟨b, off, none⟩), .bool true]) (by simp) (by simp [go_sem]) ?_
  refine (o_store ⟨b, off, none⟩ x .returning _ c0 z0).mono ?_
  rintro e u' w'' ⟨rfl, rfl, rfl⟩
  refine leaves_cons (f := 139) (args := #[.pointer (some ⟨b, off + 1, none⟩)]) (by simp [settle]) (by simp [go_sem]) ?_
  refine (o_unlock ⟨b, off + 1, none⟩ _ _ ?_ (by simp [z1])).mono ?_
  · refine (World.cell?_setCell_other _ ⟨b, off, none⟩ ⟨b, off + 1, none⟩ _ (by simp)).trans ?_
    rw [World.cell?_drew]
    exact c1
  rintro e u' w'' ⟨rfl, rfl, rfl⟩
  simp [Leaves, settle, results, Tryz.results122]
  exact hR
set_option maxRecDepth 100000 in
set_option maxHeartbeats 1600000 in
theorem o_slow130 (b off : Nat) (us vs : Array Value) (w : World) (R : Ending → World → Prop)
    (h0 : w.cell? ⟨b, off, none⟩ = some (.int .u32 0)) (h1 : w.cell? ⟨b, off + 1, none⟩ = some (.int .i32 0)) (f1 : w.frozen? ⟨b, off + 1, none⟩ = false)
    (hcb : Calls Tryz.prog 130 (us ++ #[] ++ vs) (w.setCell ⟨b, off + 1, none⟩ (.int .i32 1)) fun e w2 => (∃ v, e = .returned v) ∧ (∃ x, w2.cell? ⟨b, off, none⟩ = some x) ∧ w2.frozen? ⟨b, off, none⟩ = false ∧
      w2.cell? ⟨b, off + 1, none⟩ = some (.int .i32 1) ∧ w2.frozen? ⟨b, off + 1, none⟩ = false ∧ R (.returned (.tuple #[])) ((w2.drew.setCell ⟨b, off, none⟩ (.int .u32 1)).setCell ⟨b, off + 1, none⟩ (.int .i32 0))) :
    Calls Tryz.prog 122 #[.pointer (some ⟨b, off, none⟩), .func (.func 130) us vs] w R := by
  have hl := run_call_load (P := Tryz.prog) Tryz.func137 (by kernel_rfl) (by kernel_rfl) (by kernel_rfl) .u32 (by kernel_rfl) (w := w.setCell ⟨b, off + 1, none⟩ (.int .i32 1)) (a := ⟨b, off, none⟩) (x := 0) ((World.cell?_setCell_other _ ⟨b, off + 1, none⟩ ⟨b, off, none⟩ _ (by simp)).trans h0)
  have hnot : ∀ (x : Bool) (w : World), (Op.unary .not (.bool x)).run Tryz.prog w = .ok (.bool (!x)) w := fun _ _ => rfl
  have hinv : (callFunc 130 (us ++ #[] ++ vs)).run Tryz.prog (w.setCell ⟨b, off + 1, none⟩ (.int .i32 1)) = .ok (.enter 130 (us ++ #[] ++ vs)) (w.setCell ⟨b, off + 1, none⟩ (.int .i32 1)) := run_enter Tryz.func130 (by kernel_rfl) (by kernel_rfl)
  go_enter_defers Tryz.func122, Tryz.ntmps122
  go_wp2_with (first | (go_at_call 138; refine (o_lock ⟨b, off + 1, none⟩ _ (by go_simp) (by go_simp)).mono ?_; rintro e w' ⟨rfl, rfl⟩) | (go_at_call 121; go_in) | (go_at_call 130; refine hcb.mono ?_; rintro e w2 ⟨⟨v, rfl⟩, ⟨x, c0⟩, z0, c1, z1, hR⟩))
  refine leaves_cons (f := 140) (args := #[.pointer (some ⟨b, off, none⟩), .bool true]) (by simp) (by simp [go_sem]) ?_
  refine (o_store ⟨b, off, none⟩ x .returning _ c0 z0).mono ?_
  rintro e u' w'' ⟨rfl, rfl, rfl⟩
  refine leaves_cons (f := 139) (args := #[.pointer (some ⟨b, off + 1, none⟩)]) (by simp [settle]) (by simp [go_sem]) ?_
  refine (o_unlock ⟨b, off + 1, none⟩ _ _ ?_ (by simp [z1])).mono ?_
  · refine (World.cell?_setCell_other _ ⟨b, off, none⟩ ⟨b, off + 1, none⟩ _ (by simp)).trans ?_
    rw [World.cell?_drew]
    exact c1
  rintro e u' w'' ⟨rfl, rfl, rfl⟩
  simp [Leaves, settle, results, Tryz.results122]
  exact hR
end Go.Proofs.YtecojalpbppfeaaGreat.Gen

namespace Go.Proofs.YtecojalpbppfeaaGreat.Gen
open Go Go.Proofs.YtecojalpbppfeaaGreat.Abs Go.RowKit
variable {g : G} {n : Nat}
/-- told functions of this program -/
def TT : XTab := fun f =>
  if f = 122 then some (.slow [93, 130])
  else   if f = 137 then some (.ld .u32)
  else   if f = 160 then some (.tab idxT)
  else none
set_option maxRecDepth 100000 in
theorem TT_ok : XTOk Tryz.prog TT := by
  intro f k h
  unfold TT at h
  split at h
  · rename_i hf; subst hf; cases h
    refine ⟨⟨_, Tryz.func122, by kernel_rfl, by kernel_rfl⟩, ?_⟩
    intro F hF
    simp only [List.mem_cons, List.not_mem_nil, or_false] at hF
    rcases hF with rfl | rfl
    · exact ⟨⟨_, Tryz.func93, by kernel_rfl, by kernel_rfl⟩, o_slow93⟩
    · exact ⟨⟨_, Tryz.func130, by kernel_rfl, by kernel_rfl⟩, o_slow130⟩
  · split at h
    · rename_i hf; subst hf; cases h
      exact ⟨_, Tryz.func137, by kernel_rfl, by kernel_rfl, by kernel_rfl, by kernel_rfl⟩
    · split at h
      · rename_i hf; subst hf; cases h
        exact idx_sim ⟨_, Tryz.func160, by kernel_rfl, by kernel_rfl, by kernel_rfl, by kernel_rfl⟩
      · cases h
abbrev AC : CT := ACalls Tryz.prog (XP Tryz.prog TT)
theorem X0_mono : XMono (XP Tryz.prog TT) := XP_mono _
/-- a call of plain values that an evaluation tells -/
theorem AC_ev {f : FuncId} {args : List Value} {K : Cont} (v : Value) (fuel depth : Nat) (h1 : plain 3 v = true) (h2 : args.all (plain 3) = true) (h3 : ecallsH Tryz.prog (HT TT) fuel depth f args .nil 0 (fun v' _ _ => sameW v' v) = true) (hK : ∀ n', K v g n') : AC f args g n K :=
  fun C hC => hC.2 _ _ _ _ _ (.inr ⟨v, fuel, depth, h1, h2, h3, hK⟩)
theorem doSlow_tell {args : List Value} {K : Cont} (h : kSlow AC [93, 130] args g n K) : AC 122 args g n K := ACalls.foreign X0_mono (.inl h)
theorem LoadUint32_tell {args : List Value} {K : Cont} (h : kLoadX .u32 args g n K) : AC 137 args g n K := ACalls.foreign X0_mono (.inl h)

theorem kSplit_t {b : Bool} {A B : Prop} (h : b = true) (k : A) : kSplit (.bool b) A B := by subst h; exact k
theorem kSplit_f {b : Bool} {A B : Prop} (h : b = false) (k : B) : kSplit (.bool b) A B := by subst h; exact k
theorem take_add {α : Type} {xs : List α} {i : Nat} {x : α} (h : xs[i]? = some x) : xs.take (i + 1) = xs.take i ++ [x] := by rw [List.take_add_one, h]; rfl
theorem drop_get {α : Type} {xs : List α} {i : Nat} {x : α} (h : xs[i]? = some x) : xs.drop i = x :: xs.drop (i + 1) := by
  rw [List.drop_eq_getElem?_toList_append, h]; rfl
def idxV (o : Option Nat) : Value := match o with | some i => .int .i64 (i : Nat) | none => .int .i64 (-1)
theorem filter_take_none {α : Type} {p : α → Bool} {xs : List α} {i : Nat} (h : ∀ x ∈ xs.take i, p x = false) : (xs.take i).filter (fun x => !p x) = xs.take i := by
  rw [List.filter_eq_self]; intro x hx; simp [h x hx]
abbrev Ln := { w : List Int // w.length = 8 }
def encL (l : Ln) : List Value := l.1.map (.int .u64 ·)
theorem encL_len (l : Ln) : (encL l).length = 8 := by simp [encL, l.2]
theorem encL_cell (l : Ln) : ∀ v ∈ encL l, isCell v = true := by simp [encL, isCell]
def zeroL : Ln := ⟨[0, 0, 0, 0, 0, 0, 0, 0], rfl⟩
def Ln.put (l : Ln) (w : Nat) (v : Int) : Ln := ⟨l.1.set w v, by simp [l.2]⟩
theorem leaves_ints {k : IntKind} : ∀ (xs ys : List Int), xs.length = ys.length → leavesEq (List.replicate xs.length .i) (xs.map (.int k ·)) (ys.map (.int k ·)) = some (decide (xs = ys))
  | [], [], _ => rfl
  | [], _ :: _, h => by simp at h
  | _ :: _, [], h => by simp at h
  | x :: xs, y :: ys, h => by
    have ih := leaves_ints (k := k) xs ys (by simpa using h)
    simp only [List.length_cons, List.replicate_succ, List.map_cons, leavesEq, leafEq, if_true, ih, Option.some.injEq]
    rw [Bool.eq_iff_iff]; simp
theorem eqL (a b : Ln) (K : Value → Prop) (h : K (.bool (decide (a = b)))) : kBin (.agg [.i, .i, .i, .i, .i, .i, .i, .i]) .eql (.agg (encL a).toArray) (.agg (encL b).toArray) K := by
  have e := leaves_ints (k := .u64) a.1 b.1 (by rw [a.2, b.2])
  rw [a.2] at e
  have e' : leavesEq [.i, .i, .i, .i, .i, .i, .i, .i] (encL a) (encL b) = some (decide (a = b)) := by
    have : (decide (a = b)) = decide (a.1 = b.1) := by rw [Bool.eq_iff_iff]; simp [Subtype.ext_iff]
    rw [this]; exact e
  show (match leavesEq [.i, .i, .i, .i, .i, .i, .i, .i] (encL a) (encL b) with | some r => kCmp .eql r K | none => False)
  rw [e']
  exact h
theorem splice_all {cs vs : List Value} (h : vs.length = cs.length) : splice cs 0 vs = vs := by simp [splice, h]
theorem findIdx_some {α : Type} {p : α → Bool} {xs : List α} {i : Nat} {x : α} (he : xs[i]? = some x) (hp : p x = true) (hb : ∀ y ∈ xs.take i, p y = false) : xs.findIdx? p = some i := by
  have hlt := lt_of_get he
  rw [List.findIdx?_eq_some_iff_getElem]
  refine ⟨hlt, ?_, fun j hj => ?_⟩
  · rw [List.getElem?_eq_getElem hlt] at he; cases he; exact hp
  · have := hb xs[j] (List.mem_of_getElem? (i := j) (by rw [List.getElem?_take, if_pos hj, List.getElem?_eq_getElem]))
    simp [this]
def encB (i : Int) : List Value := [.int .u8 i]
theorem encB_len (i : Int) : (encB i).length = 1 := rfl
theorem encB_cell (i : Int) : ∀ v ∈ encB i, isCell v = true := by simp [encB, isCell]
theorem ldL {l : Nat} {x : Ln} {bk : BK} {K : List Value → Prop} (h : g l = some (.cells (encL x) bk)) (k : K (encL x)) : kLdN g l 0 8 K := by
  refine kLdN_of h (by rw [encL_len]; decide) ?_
  rw [List.drop_zero, List.take_of_length_le (by rw [encL_len]; exact Nat.le_refl _)]; exact k
theorem putL {l : Nat} {x : Ln} {w : Int} {v : Int} {K : Value → Nat → Nat → G → Prop} (hw : 0 ≤ w ∧ w < 8) (h : g l = some (.cells (encL x) .exact))
    (k : ∀ p l' o, upd g l (some (.cells (encL (x.put w.toNat v)) .exact)) l = some (.cells (encL (x.put w.toNat v)) .exact) → K p l' o (upd g l (some (.cells (encL (x.put w.toNat v)) .exact)))) :
    kIndexArr (ptr l 0) (.int .i64 w) 8 1 fun p => kPtr p fun l' o => kSt g l' o (.int .u64 v) (K p l' o) := by
  refine ⟨hw.1, hw.2, ?_⟩
  simp only [kPtr_p]
  refine kSt_of h rfl (by rw [encL_len]; omega) rfl ?_
  have e : (encL x).set (0 + w.toNat * 1) (.int .u64 v) = encL (x.put w.toNat v) := by simp [encL, Ln.put, List.map_set]
  rw [e]
  exact k _ _ _ (upd_same _ _ _)
end Go.Proofs.YtecojalpbppfeaaGreat.Gen

namespace Go.Proofs.YtecojalpbppfeaaGreat.Gen
open Go Go.Proofs.YtecojalpbppfeaaGreat.Abs Go.RowKit
variable {g : G} {n : Nat}
/-- a heap's shape -/
structure Hp where
  cores : Int
  lines : Int
  vol : Int
  sets : Int
  ways : Int
  queue : Int
  store : Int
  log : Int
  hl : Int
  deriving DecidableEq
def encC (h : Hp) : List Value := [.int .i64 h.cores, .int .i64 h.lines, .int .i64 h.vol, .int .i64 h.sets, .int .i64 h.ways, .int .i64 h.queue, .int .i64 h.store]
def encH (h : Hp) : List Value := encC h ++ [.int .i64 h.log, .int .i64 h.hl]
theorem encC_len (h : Hp) : (encC h).length = 7 := rfl
theorem encH_len (h : Hp) : (encH h).length = 9 := rfl
def GoodC (h : Hp) : Prop := 1 ≤ h.cores ∧ h.cores ≤ 8 ∧ 2 ≤ h.lines ∧ h.lines ≤ 64 ∧ 1 ≤ h.vol ∧ h.vol < h.lines ∧ (h.sets = 1 ∨ h.sets = 2 ∨ h.sets = 4 ∨ h.sets = 8) ∧ 1 ≤ h.ways ∧ h.ways ≤ 8 ∧ 1 ≤ h.queue ∧ h.queue ≤ 16 ∧ 1 ≤ h.store ∧ h.store ≤ 16
instance (h : Hp) : Decidable (GoodC h) := by unfold GoodC; infer_instance
def GoodH (h : Hp) : Prop := GoodC h ∧ 1 ≤ h.log ∧ h.log ≤ 16 ∧ 1 ≤ h.hl ∧ h.hl ≤ 16 ∧ h.vol + 1 + h.log + h.hl ≤ h.lines
instance (h : Hp) : Decidable (GoodH h) := by unfold GoodH; infer_instance
theorem kSplit_c {b : Bool} {A B : Prop} (hA : b = true → A) (hB : b = false → B) : kSplit (.bool b) A B := by cases b; exact hB rfl; exact hA rfl
theorem kSplit_d {p : Prop} [Decidable p] {A B : Prop} (hA : p → A) (hB : ¬ p → B) : kSplit (.bool (decide p)) A B := by
  by_cases h : p
  · simp only [h, decide_true]; exact hA h
  · simp only [h, decide_false]; exact hB h
theorem leafB {K : Cont} {G0 : Bool} (hK : ∀ n', K (.bool G0) g n') {b : Bool} (h : b = G0) {n' : Nat} : K (.bool b) g n' := by subst h; exact hK _
theorem between_spec {x a b : Int} {K : Cont} (hK : ∀ n', K (.bool (decide (a ≤ x ∧ x ≤ b))) g n') : AC word_between_id [.int .i64 x, .int .i64 a, .int .i64 b] g n K := by
  refine ACalls.fold X0_mono ?_
  rw [← word_between_eq]
  simp only [word_between, kBin_geq, kBin_leq]
  refine kSplit_c (fun h => aRet_of (Sub.refl _) (leafB hK ?_)) (fun h => aRet_of (Sub.refl _) (leafB hK ?_))
  · simp at h; simp [h]
  · simp at h; simp; omega
theorem ldC {l : Nat} {x : Hp} {bk : BK} {K : List Value → Prop} (h : g l = some (.cells (encC x) bk)) (k : K (encC x)) : kLdN g l 0 7 K := by
  refine kLdN_of h (by rw [encC_len]; decide) ?_
  rw [List.drop_zero, List.take_of_length_le (by rw [encC_len]; exact Nat.le_refl _)]; exact k
theorem ldH {l : Nat} {x : Hp} {bk : BK} {K : List Value → Prop} (h : g l = some (.cells (encH x) bk)) (k : K (encH x)) : kLdN g l 0 9 K := by
  refine kLdN_of h (by rw [encH_len]; decide) ?_
  rw [List.drop_zero, List.take_of_length_le (by rw [encH_len]; exact Nat.le_refl _)]; exact k
theorem ldHC {l : Nat} {x : Hp} {bk : BK} {K : List Value → Prop} (h : g l = some (.cells (encH x) bk)) (k : K (encC x)) : kLdN g l (0 + 0) 7 K :=
  kLdN_of h (by rw [encH_len]; decide) k
set_option maxHeartbeats 2000000 in
theorem rGoodC_spec {h : Hp} {K : Cont} (hK : ∀ g' n', Sub g g' → K (.bool (decide (GoodC h))) g' n') : AC bellowsref01_Good_id [.agg (encC h).toArray] g n K := by
  refine ACalls.fold X0_mono ?_
  rw [← bellowsref01_Good_eq]
  simp only [bellowsref01_Good, kAgg_a]
  intro hn
  have hu : Sub g (upd g n (some (.cells (encC h) .exact))) := (Sub.refl g).new hn _
  have hb : upd g n (some (.cells (encC h) .exact)) n = some (.cells (encC h) .exact) := upd_same _ _ _
  generalize upd g n (some (.cells (encC h) .exact)) = g1 at hu hb
  have hK1 : ∀ m, K (.bool (decide (GoodC h))) g1 m := fun m => hK _ _ hu
  clear hK hu hn
  repeat' first
    | (refine kLd_of hb rfl ?_)
    | (refine kSplit_c (fun _ => ?_) (fun _ => ?_))
    | (refine aRet_of (Sub.refl _) (leafB hK1 ?_))
    | (simp only [kBin_geq, kBin_leq, kBin_lss, kBin_eql])
  all_goals (simp only [decide_eq_true_eq, decide_eq_false_iff_not] at *; rw [Bool.eq_iff_iff]; simp only [decide_eq_true_eq, reduceCtorEq, false_iff]; unfold GoodC; omega)
set_option maxHeartbeats 2000000 in
theorem GoodC_spec {h : Hp} {K : Cont} (hK : ∀ g' n', Sub g g' → K (.bool (decide (GoodC h))) g' n') : AC word_Good_id [.agg (encC h).toArray] g n K := by
  refine ACalls.fold X0_mono ?_
  rw [← word_Good_eq]
  simp only [word_Good, kAgg_a]
  intro hn
  have hu : Sub g (upd g n (some (.cells (encC h) .exact))) := (Sub.refl g).new hn _
  have hb : upd g n (some (.cells (encC h) .exact)) n = some (.cells (encC h) .exact) := upd_same _ _ _
  generalize upd g n (some (.cells (encC h) .exact)) = g1 at hu hb
  have hK1 : ∀ m, K (.bool (decide (GoodC h))) g1 m := fun m => hK _ _ hu
  clear hK hu hn
  repeat' first
    | (refine kLd_of hb rfl ?_)
    | (refine kSplit_d (fun _ => ?_) (fun _ => ?_))
    | (refine kSplit_t rfl ?_)
    | (refine kSplit_f rfl ?_)
    | (refine between_spec fun _ => ?_)
    | (refine aRet_of (Sub.refl _) (leafB hK1 ?_))
    | (rw [kBin_sub, wrap64_of (by omega) (by omega)])
    | (simp only [kBin_geq, kBin_leq, kBin_lss, kBin_eql])
  all_goals (rw [Bool.eq_iff_iff]; simp only [decide_eq_true_eq, reduceCtorEq, false_iff, Bool.false_eq_true]; unfold GoodC; omega)
set_option maxHeartbeats 2000000 in
theorem rGoodH_spec {h : Hp} {K : Cont} (hK : ∀ g' n', Sub g g' → K (.bool (decide (GoodH h))) g' n') : AC bellowsref22_Good_id [.agg (encH h).toArray] g n K := by
  refine ACalls.fold X0_mono ?_
  rw [← bellowsref22_Good_eq]
  simp only [bellowsref22_Good, kAgg_a]
  intro hn
  have hu : Sub g (upd g n (some (.cells (encH h) .exact))) := (Sub.refl g).new hn _
  have hb : upd g n (some (.cells (encH h) .exact)) n = some (.cells (encH h) .exact) := upd_same _ _ _
  generalize upd g n (some (.cells (encH h) .exact)) = g1 at hu hb
  refine ldHC hb (rGoodC_spec fun g2 n2 hs2 => ?_)
  have hb2 := hs2.live hb
  have hK1 : ∀ m, K (.bool (decide (GoodH h))) g2 m := fun m => hK _ _ (hu.trans hs2)
  clear hK hu hn
  have gc : GoodC h → 2 ≤ h.lines ∧ h.lines ≤ 64 ∧ 1 ≤ h.vol ∧ h.vol < h.lines := fun h => ⟨h.2.2.1, h.2.2.2.1, h.2.2.2.2.1, h.2.2.2.2.2.1⟩
  refine kSplit_d (fun hc => ?_) (fun hc => ?_)
  · have gc := gc hc
    repeat' first
      | (refine kLd_of hb2 rfl ?_)
      | (refine kSplit_d (fun _ => ?_) (fun _ => ?_))
      | (refine aRet_of (Sub.refl _) (leafB hK1 ?_))
      | (rw [kBin_add, wrap64_of (by omega) (by omega)])
      | (simp only [kBin_geq, kBin_leq, kBin_lss, kBin_eql])
    all_goals (rw [Bool.eq_iff_iff]; simp only [decide_eq_true_eq, reduceCtorEq, false_iff, Bool.false_eq_true, GoodH, hc, true_and]; omega)
  · exact aRet_of (Sub.refl _) (leafB hK1 (by simp [GoodH, hc]))
def planT (h : Hp) : List Value := [.bool (decide (GoodH h)), .int .i64 (IntKind.i64.wrap (h.vol + 1)), .int .i64 (IntKind.i64.wrap (IntKind.i64.wrap (h.vol + 1) + h.log)), .int .i64 h.hl, .int .i64 (IntKind.i64.wrap (4 * h.log))]
set_option maxHeartbeats 4000000 in
theorem reckon_spec {h : Hp} {lp : Nat} {a b c d0 d1 d2 d3 d4 : Value} (hp : g lp = some (.cells [a, b, c, d0, d1, d2, d3, d4] .exact)) {K : Cont}
    (hK : ∀ g' n', (∀ l x, g l = some x → l ≠ lp → g' l = some x) → g' lp = some (.cells ([a, b, c] ++ planT h) .exact) → K (.tuple #[]) g' n') : AC layout_plan_reckon_id [ptr lp 0, .agg (encH h).toArray] g n K := by
  refine ACalls.fold X0_mono ?_
  rw [← layout_plan_reckon_eq]
  simp only [layout_plan_reckon, kAgg_a]
  intro hn
  have hu : Sub g (upd g n (some (.cells (encH h) .exact))) := (Sub.refl g).new hn _
  have hb : upd g n (some (.cells (encH h) .exact)) n = some (.cells (encH h) .exact) := upd_same _ _ _
  have hne : n ≠ lp := fun e => by rw [e, hp] at hn; cases hn
  generalize upd g n (some (.cells (encH h) .exact)) = g1 at hu hb
  refine ldHC hb (GoodC_spec fun g2 n2 hs2 => ?_)
  have hb2 := hs2.live hb
  have hp2 := hs2.live (hu.live hp)
  have hk : ∀ l x, g l = some x → g2 l = some x := fun l x hl => hs2.live (hu.live hl)
  have gc : GoodC h → 2 ≤ h.lines ∧ h.lines ≤ 64 ∧ 1 ≤ h.vol ∧ h.vol < h.lines := fun h => ⟨h.2.2.1, h.2.2.2.1, h.2.2.2.2.1, h.2.2.2.2.2.1⟩
  have fin : ∀ (x : Bool) (e1 e2 e4 : Int) (n' : Nat) (g' : G), g' lp = some (.cells [a, b, c, .bool x, .int .i64 e1, .int .i64 e2, .int .i64 h.hl, .int .i64 e4] .exact) → x = decide (GoodH h) → e1 = IntKind.i64.wrap (h.vol + 1) → e2 = IntKind.i64.wrap (IntKind.i64.wrap (h.vol + 1) + h.log) →
      e4 = IntKind.i64.wrap (4 * h.log) → (∀ l, l ≠ lp → g' l = g2 l) → K (.tuple #[]) g' n' := by
    intro x e1 e2 e4 n' g' h2 hx h3 h4 h5 h1
    subst hx h3 h4 h5
    exact hK _ _ (fun l y hl hne => by rw [h1 l hne]; exact hk l y hl) h2
  clear hK hu hn
  refine kSplit_d (fun hc => ?_) (fun hc => ?_)
  · have gc := gc hc
    repeat' first
      | (refine kLd_of hb2 rfl ?_)
      | (refine kLd_of ((upd_ne _ _ hne).trans hb2) rfl ?_)
      | (refine kLd_of ((upd_ne _ _ hne).trans ((upd_ne _ _ hne).trans hb2)) rfl ?_)
      | (refine kLd_of ((upd_ne _ _ hne).trans ((upd_ne _ _ hne).trans ((upd_ne _ _ hne).trans hb2))) rfl ?_)
      | (refine kLd_of (upd_same _ _ _) rfl ?_)
      | (refine kSt_of hp2 rfl (by simp) rfl ?_)
      | (refine kSt_of (upd_same _ _ _) rfl (by simp) rfl ?_)
      | (refine kSplit_d (fun _ => ?_) (fun _ => ?_))
      | (refine aRet_of (Sub.refl _) (fin _ _ _ _ _ _ (upd_same _ _ _) ?_ ?_ ?_ ?_ ?_))
      | (rw [kNil_p])
      | (rw [kPtr_p])
      | (rw [kBin_mul])
      | (refine ⟨upd_ne _ _ hne, ?_⟩)
      | (rw [kBin_sub, wrap64_of (by omega) (by omega)])
      | (rw [kBin_add, wrap64_of (by omega) (by omega)])
      | (rw [kBin_add])
      | (simp only [kBin_geq, kBin_leq, kBin_lss, kBin_eql])
    all_goals first
      | (intro l hl; rw [upd_ne _ _ hl, upd_ne _ _ hl, upd_ne _ _ hl, upd_ne _ _ hl, upd_ne _ _ hl])
      | rfl
      | (rw [wrap64_of (by omega) (by omega)])
      | (rw [wrap64_of (a := h.vol + 1) (by omega) (by omega), wrap64_of (by omega) (by omega)])
      | (rw [wrap64_of (a := h.vol + 1) (by omega) (by omega)])
      | (rw [Bool.eq_iff_iff]; simp only [decide_eq_true_eq, reduceCtorEq, false_iff, Bool.false_eq_true, GoodH, hc, true_and]; omega)
  · have hng : decide (GoodH h) = false := by simp [GoodH, hc]
    repeat' first
      | (refine kLd_of hb2 rfl ?_)
      | (refine kLd_of ((upd_ne _ _ hne).trans hb2) rfl ?_)
      | (refine kLd_of ((upd_ne _ _ hne).trans ((upd_ne _ _ hne).trans hb2)) rfl ?_)
      | (refine kLd_of ((upd_ne _ _ hne).trans ((upd_ne _ _ hne).trans ((upd_ne _ _ hne).trans hb2))) rfl ?_)
      | (refine kLd_of (upd_same _ _ _) rfl ?_)
      | (refine kSt_of hp2 rfl (by simp) rfl ?_)
      | (refine kSt_of (upd_same _ _ _) rfl (by simp) rfl ?_)
      | (refine aRet_of (Sub.refl _) (fin _ _ _ _ _ _ (upd_same _ _ _) ?_ ?_ ?_ ?_ ?_))
      | (rw [kNil_p])
      | (rw [kPtr_p])
      | (rw [kBin_mul])
      | (refine ⟨upd_ne _ _ hne, ?_⟩)
      | (rw [kBin_add])
    all_goals first
      | (intro l hl; rw [upd_ne _ _ hl, upd_ne _ _ hl, upd_ne _ _ hl, upd_ne _ _ hl, upd_ne _ _ hl])
      | rfl
      | exact hng.symm
end Go.Proofs.YtecojalpbppfeaaGreat.Gen

namespace Go.Proofs.YtecojalpbppfeaaGreat.Gen
open Go Go.Proofs.YtecojalpbppfeaaGreat.Abs Go.RowKit
variable {g : G} {n : Nat}
theorem upd_upd (g : G) (l : Nat) (a b : Option Blk) : upd (upd g l a) l b = upd g l b := by
  funext i; by_cases h : i = l
  · subst h; rw [upd_same, upd_same]
  · rw [upd_ne _ _ h, upd_ne _ _ h, upd_ne _ _ h]
def planD (h : Hp) : List Value := [.int .u32 1, .int .i32 0, .int .u32 0] ++ planT h
theorem of_spec {h : Hp} {K : Cont} (hK : ∀ lp g' n', Sub g g' → g' lp = some (.cells (planD h) .exact) → K (ptr lp 0) g' n') : AC layout_of_id [.agg (encH h).toArray] g n K := by
  refine ACalls.fold X0_mono ?_
  rw [← layout_of_eq]
  simp only [layout_of, kAgg_a, kFill_nil]
  intro hn
  have h1s := (Sub.refl g).new hn (some (.cells (encH h) .exact))
  have h1b : upd g n (some (.cells (encH h) .exact)) n = some (.cells (encH h) .exact) := upd_same _ _ _
  generalize upd g n (some (.cells (encH h) .exact)) = g1 at h1s h1b
  intro hn2
  have h2s := (Sub.refl g1).new hn2 (some (.cells [(.int .u32 0), (.int .i32 0), (.int .u32 0), (.bool false), (.int .i64 0), (.int .i64 0), (.int .i64 0), (.int .i64 0)] .exact))
  have h2b : upd g1 (n + 1) (some (.cells [(.int .u32 0), (.int .i32 0), (.int .u32 0), (.bool false), (.int .i64 0), (.int .i64 0), (.int .i64 0), (.int .i64 0)] .exact)) (n + 1) = some _ := upd_same _ _ _
  generalize upd g1 (n + 1) (some (.cells [(.int .u32 0), (.int .i32 0), (.int .u32 0), (.bool false), (.int .i64 0), (.int .i64 0), (.int .i64 0), (.int .i64 0)] .exact)) = g2 at h2s h2b
  intro hn3
  refine kSt_of (upd_same _ _ _) rfl (by simp) rfl ?_
  rw [upd_upd]
  have h3s := (Sub.refl g2).new hn3 (some (.cells (([.pointer none] : List Value).set 0 (ptr (n + 1) 0)) .exact))
  have h3b : upd g2 (n + 1 + 1) (some (.cells (([.pointer none] : List Value).set 0 (ptr (n + 1) 0)) .exact)) (n + 1 + 1) = some (.cells [ptr (n + 1) 0] .exact) := upd_same _ _ _
  generalize upd g2 (n + 1 + 1) (some (.cells (([.pointer none] : List Value).set 0 (ptr (n + 1) 0)) .exact)) = g3 at h3s h3b
  have b5 := h3s.live h2b
  have b1 := h3s.live (h2s.live h1b)
  have hn2' : g (n + 1) = none := h1s.none hn2
  refine kLd_of h3b rfl ?_
  simp only [kNil_p, kPtr_p]
  refine ACalls.fold X0_mono ?_
  rw [← sync_Once_Do_eq]
  simp only [sync_Once_Do, kNil_p, kPtr_p, Nat.zero_add]
  refine ACalls.fold X0_mono ?_
  rw [← sync_atomic_Bool_Load_eq]
  simp only [sync_atomic_Bool_Load, kNil_p, kPtr_p, Nat.zero_add]
  refine LoadUint32_tell (kLd_of b5 rfl ⟨rfl, ?_⟩)
  simp only [kBin_neq]
  refine aRet_of (Sub.refl _) ?_
  simp only [kUn_not]
  refine kSplit_t (by simp) (doSlow_tell ?_)
  refine ⟨by decide, kLd_of b5 rfl rfl, kLd_of b5 rfl rfl, kSt_of b5 rfl (by simp) rfl ?_⟩
  have ne15 : n ≠ n + 1 := by omega
  have ne35 : n + 1 + 1 ≠ n + 1 := by omega
  -- the closure
  refine ACalls.fold X0_mono ?_
  show abody Tryz.prog AC layout_of_1_id [ptr (n + 1 + 1) 0, ptr n 0] _ _ _
  rw [← layout_of_1_eq]
  simp only [layout_of_1, kPtr_p]
  refine kLd_of ((upd_ne _ _ ne35).trans h3b) rfl (ldH ((upd_ne _ _ ne15).trans b1) ?_)
  refine reckon_spec (upd_same _ _ _) (fun g6 n6 hk6 hp6 => aRet_of (Sub.refl _) ?_)
  refine ⟨kLd_of hp6 rfl rfl, kSt_of hp6 rfl (by simp [planT]) rfl (kSt_of (upd_same _ _ _) rfl (by simp [planT]) rfl (aRet_of (Sub.refl _) ?_))⟩
  rw [upd_upd]
  have hl3 : upd g6 (n + 1) (some (.cells (((([.int .u32 0, .int .i32 1, .int .u32 0] : List Value) ++ planT h).set 0 (.int .u32 1)).set (0 + 1) (.int .i32 0)) .exact)) (n + 1 + 1) = some (.cells [ptr (n + 1) 0] .exact) := by
    rw [upd_ne _ _ ne35]; exact hk6 _ _ ((upd_ne _ _ ne35).trans h3b) ne35
  refine kLd_of hl3 rfl (aRet_of (Sub.refl _) (hK _ _ _ ?_ ?_))
  · intro l
    by_cases e : l = n + 1
    · subst e; exact .inl hn2'
    · cases hl : g l with
      | none => exact .inl rfl
      | some x =>
        refine .inr ?_
        rw [upd_ne _ _ e]
        exact (hk6 l x (by rw [upd_ne _ _ e]; exact h3s.live (h2s.live (h1s.live hl))) e).symm
  · rw [upd_same]; rfl
theorem GoodH_spec {h : Hp} {K : Cont} (hK : ∀ g' n', Sub g g' → K (.bool (decide (GoodH h))) g' n') : AC layout_Good_id [.agg (encH h).toArray] g n K := by
  refine ACalls.fold X0_mono ?_
  rw [← layout_Good_eq]
  simp only [layout_Good, kAgg_a]
  intro hn
  have h1s := (Sub.refl g).new hn (some (.cells (encH h) .exact))
  refine ldH (upd_same _ _ _) (of_spec fun lp g2 n2 hs hp => ?_)
  simp only [kNil_p, kPtr_p]
  exact kLd_of hp rfl (aRet_of (Sub.refl _) (hK _ _ (h1s.trans hs)))
end Go.Proofs.YtecojalpbppfeaaGreat.Gen

namespace Go.Proofs.YtecojalpbppfeaaGreat.Gen
open Go Go.Proofs.YtecojalpbppfeaaGreat.Abs Go.RowKit
variable {g : G} {n : Nat}
/-! ## sorting in place: at most 16 words -/
def wv (xs : List Int) : List Value := xs.map (.int .u64)
def sw (xs : List Int) (i j : Nat) : List Int := (xs.set i (xs.getD j 0)).set j (xs.getD i 0)
theorem sw_len (xs : List Int) (i j : Nat) : (sw xs i j).length = xs.length := by simp [sw]
theorem sw_get {xs : List Int} {i j : Nat} (hi : i < xs.length) (hj : j < xs.length) (k : Nat) : (sw xs i j).getD k 0 = if k = j then xs.getD i 0 else if k = i then xs.getD j 0 else xs.getD k 0 := by
  unfold sw
  simp only [List.getD_eq_getElem?_getD, List.getElem?_set, List.length_set]
  by_cases h1 : j = k
  · subst h1; simp [hj]
  · rw [if_neg h1, if_neg (Ne.symm h1)]
    by_cases h2 : i = k
    · subst h2; simp [hi]
    · rw [if_neg h2, if_neg (Ne.symm h2)]
theorem sw_perm {xs : List Int} {i j : Nat} (hi : i < xs.length) (hj : j < xs.length) : (sw xs i j).Perm xs := by
  have h := (Array.swap_perm (xs := xs.toArray) (i := i) (j := j) (by simpa using hi) (by simpa using hj)).toList
  have e : (xs.toArray.swap i j (by simpa using hi) (by simpa using hj)).toList = sw xs i j := by
    unfold sw
    rw [List.getD_eq_getElem?_getD, List.getD_eq_getElem?_getD, List.getElem?_eq_getElem hi, List.getElem?_eq_getElem hj]
    simp [Array.swap]
  rw [e] at h
  simpa using h
/-- some places of [a, b) change hands -/
inductive Sws (a b : Nat) : List Int → List Int → Prop
  | refl (xs) : Sws a b xs xs
  | step {xs ys i j} : Sws a b xs ys → a ≤ i → i < b → a ≤ j → j < b → b ≤ ys.length → Sws a b xs (sw ys i j)
variable {a b c d : Nat} {xs ys zs : List Int}
theorem Sws.len (h : Sws a b xs ys) : ys.length = xs.length := by
  induction h with
  | refl => rfl
  | step _ _ _ _ _ _ ih => rw [sw_len, ih]
theorem Sws.perm (h : Sws a b xs ys) : ys.Perm xs := by
  induction h with
  | refl => exact List.Perm.refl _
  | step h q1 q2 q3 q4 q5 ih => exact (sw_perm (by omega) (by omega)).trans ih
theorem Sws.out (h : Sws a b xs ys) {k : Nat} (hk : k < a ∨ b ≤ k) : ys.getD k 0 = xs.getD k 0 := by
  induction h with
  | refl => rfl
  | step h q1 q2 q3 q4 q5 ih => rw [sw_get (by omega) (by omega), if_neg (by omega), if_neg (by omega), ih]
theorem Sws.trans (h : Sws a b xs ys) (h2 : Sws a b ys zs) : Sws a b xs zs := by
  induction h2 with
  | refl => exact h
  | step _ q1 q2 q3 q4 q5 ih => exact .step ih q1 q2 q3 q4 q5
theorem Sws.wide (h : Sws a b xs ys) (h1 : c ≤ a) (h2 : b ≤ d) (h3 : d ≤ xs.length) : Sws c d xs ys := by
  induction h with
  | refl => exact .refl _
  | step h q1 q2 q3 q4 q5 ih => exact .step ih (by omega) (by omega) (by omega) (by omega) (by rw [h.len]; omega)
theorem Sws.all (h : Sws a b xs ys) {P : Int → Prop} (hp : ∀ k, a ≤ k → k < b → P (xs.getD k 0)) : ∀ k, a ≤ k → k < b → P (ys.getD k 0) := by
  induction h with
  | refl => exact hp
  | step h q1 q2 q3 q4 q5 ih =>
    intro k h1 h2
    rw [sw_get (by omega) (by omega)]
    split
    · exact ih _ q1 q2
    · split
      · exact ih _ q3 q4
      · exact ih k h1 h2
theorem Sws.one {i j : Nat} (h1 : a ≤ i) (h2 : i < b) (h3 : a ≤ j) (h4 : j < b) (h5 : b ≤ xs.length) : Sws a b xs (sw xs i j) := .step (.refl _) h1 h2 h3 h4 h5
def SrtW (a b : Nat) (xs : List Int) : Prop := ∀ i j, a ≤ i → i ≤ j → j < b → xs.getD i 0 ≤ xs.getD j 0
/-! ## on the heap -/
variable {l cc : Nat} {bk : BK}
def Dt (bk : BK) (xs : List Int) : Blk := .cells (wv xs) bk
/-- all but block l stays -/
def Fr (l : Nat) (g g' : G) : Prop := ∀ x b, x ≠ l → g x = some b → g' x = some b
theorem Fr.refl (l : Nat) (g : G) : Fr l g g := fun _ _ _ h => h
theorem Fr.trans {g1 g2 : G} (h : Fr l g g1) (k : Fr l g1 g2) : Fr l g g2 := fun x b h1 h2 => k x b h1 (h x b h1 h2)
theorem Fr.upd (l : Nat) (g : G) (b : Option Blk) : Fr l g (upd g l b) := fun x b' h1 h2 => by rw [upd_ne _ _ h1]; exact h2
theorem Fr.sub {g1 : G} (h : Sub g g1) : Fr l g g1 := fun _ _ _ h2 => h.live h2
theorem wv_get {xs : List Int} {i : Nat} (h : i < xs.length) : (wv xs)[i]? = some (.int .u64 (xs.getD i 0)) := by
  unfold wv; rw [List.getElem?_map, List.getElem?_eq_getElem h, List.getD_eq_getElem?_getD, List.getElem?_eq_getElem h]; rfl
theorem ixD {m : Nat} {i : Nat} {K : Value → Prop} (hi : i < m) (k : K (ptr l i)) : kIndexAddr (.slice (some ⟨l, 0, none⟩) m cc) (.int .i64 (i : Nat)) 1 K := by
  refine ⟨by omega, by omega, ?_⟩
  simpa using k
theorem ldD {i : Nat} {K : Value → Prop} (hg : g l = some (Dt bk xs)) (hi : i < xs.length) (k : K (.int .u64 (xs.getD i 0))) : kLd g l i K := kLd_of hg (wv_get hi) k
theorem stD {i : Nat} {x : Int} {K : G → Prop} (hg : g l = some (Dt bk xs)) (hr : bk.rw = true) (hi : i < xs.length) (k : K (upd g l (some (Dt bk (xs.set i x))))) : kSt g l i (.int .u64 x) K := by
  refine kSt_of hg hr (by simp [wv]; exact hi) rfl ?_
  have e : (wv xs).set i (.int .u64 x) = wv (xs.set i x) := by unfold wv; rw [List.map_set]
  rw [e]; exact k
/-- two places change hands -/
theorem swpD {m i j : Nat} {K : Value → Value → Value → Value → Value → Value → G → Prop} (hg : g l = some (Dt bk xs)) (hr : bk.rw = true) (hm : xs.length = m) (hi : i < m) (hj : j < m)
    (k : K (ptr l j) (.int .u64 (xs.getD j 0)) (ptr l i) (.int .u64 (xs.getD i 0)) (ptr l i) (ptr l j) (upd g l (some (Dt bk (sw xs i j))))) :
    kIndexAddr (.slice (some ⟨l, 0, none⟩) m cc) (.int .i64 (j : Nat)) 1 fun v41 => kPtr v41 fun l42 o42 => kLd g l42 o42 fun v42 => kIndexAddr (.slice (some ⟨l, 0, none⟩) m cc) (.int .i64 (i : Nat)) 1 fun v45 => kPtr v45 fun l46 o46 => kLd g l46 o46 fun v46 =>
      kIndexAddr (.slice (some ⟨l, 0, none⟩) m cc) (.int .i64 (i : Nat)) 1 fun v47 => kPtr v47 fun lg2 og2 => kSt g lg2 og2 v42 fun g2 => kIndexAddr (.slice (some ⟨l, 0, none⟩) m cc) (.int .i64 (j : Nat)) 1 fun v48 => kPtr v48 fun lg3 og3 => kSt g2 lg3 og3 v46 fun g3 => K v41 v42 v45 v46 v47 v48 g3 := by
  subst hm
  refine ixD hj (ldD hg hj (ixD hi (ldD hg hi (ixD hi ?_))))
  rw [kPtr_p]
  refine stD hg hr hi (ixD hj ?_)
  rw [kPtr_p]
  refine stD (upd_same _ _ _) hr (by rw [List.length_set]; exact hj) ?_
  rw [upd_upd]
  exact k
theorem Less_spec {x y : Int} {K : Cont} (hK : ∀ n', K (.bool (decide (x < y))) g n') : AC cmp_Less_uint64_id [.int .u64 x, .int .u64 y] g n K := by
  refine ACalls.fold X0_mono ?_
  rw [← cmp_Less_uint64_eq]
  simp only [cmp_Less_uint64, cmp_Less_uint64_j1]
  refine ACalls.fold X0_mono ?_
  rw [← cmp_isNaN_uint64_eq]
  simp only [cmp_isNaN_uint64, kBin_neq]
  refine aRet_of (Sub.refl _) (kSplit_f (by simp) ?_)
  rw [kBin_lss]
  exact aRet_of (Sub.refl _) (hK _)
theorem i64 {x : Int} {k : Nat} (h : x = (k : Int)) (hk : k < 1000000) : IntKind.i64.wrap x = (k : Int) := by rw [wrap64_of (by omega) (by omega), h]
end Go.Proofs.YtecojalpbppfeaaGreat.Gen

namespace Go.Proofs.YtecojalpbppfeaaGreat.Gen
open Go Go.Proofs.YtecojalpbppfeaaGreat.Abs Go.RowKit
variable {g : G} {n : Nat} {a b m l cc : Nat} {bk : BK} {xs ys zs : List Int}
abbrev sV (l m cc : Nat) : Value := .slice (some ⟨l, 0, none⟩) m cc
def AlS (a i j : Nat) (zs : List Int) : Prop := (∀ p q, a ≤ p → p ≤ q → q ≤ i → p ≠ j → q ≠ j → zs.getD p 0 ≤ zs.getD q 0) ∧ ∀ q, j < q → q ≤ i → zs.getD j 0 ≤ zs.getD q 0
theorem AlS.first {i : Nat} (h : SrtW a i zs) : AlS a i i zs := ⟨fun p q h1 h2 h3 h4 h5 => h p q h1 h2 (by omega), fun q h1 h2 => by omega⟩
theorem AlS.step {i j : Nat} (h : AlS a i j zs) (ha : a < j) (hj : j ≤ i) (hi : i < zs.length) (hlt : zs.getD j 0 < zs.getD (j - 1) 0) : AlS a i (j - 1) (sw zs j (j - 1)) := by
  obtain ⟨h1, h2⟩ := h
  have hg := sw_get (xs := zs) (i := j) (j := j - 1) (by omega) (by omega)
  refine ⟨fun p q p1 p2 p3 p4 p5 => ?_, fun q q1 q2 => ?_⟩
  · rw [hg, hg, if_neg p4, if_neg p5]
    by_cases e1 : p = j
    · rw [if_pos e1]
      by_cases e2 : q = j
      · rw [if_pos e2]; exact Int.le_refl _
      · rw [if_neg e2]; exact h1 (j - 1) q (by omega) (by omega) p3 (by omega) e2
    · rw [if_neg e1]
      by_cases e2 : q = j
      · rw [if_pos e2]; exact h1 p (j - 1) p1 (by omega) (by omega) e1 (by omega)
      · rw [if_neg e2]; exact h1 p q p1 p2 p3 e1 e2
  · rw [hg, hg, if_pos rfl, if_neg (by omega)]
    by_cases e2 : q = j
    · rw [if_pos e2]; omega
    · rw [if_neg e2]; exact h2 q (by omega) q2
theorem AlS.last {i j : Nat} (h : AlS a i j zs) (hj : a ≤ j) (hlt : a < j → zs.getD (j - 1) 0 ≤ zs.getD j 0) : SrtW a (i + 1) zs := by
  obtain ⟨h1, h2⟩ := h
  intro p q p1 p2 p3
  by_cases e1 : p = j
  · subst e1
    by_cases e2 : q = p
    · subst e2; exact Int.le_refl _
    · exact h2 q (by omega) (by omega)
  · by_cases e2 : q = j
    · subst e2
      have := hlt (by omega)
      by_cases e3 : p = q - 1
      · subst e3; exact this
      · have := h1 p (q - 1) p1 (by omega) (by omega) e1 (by omega)
        omega
    · exact h1 p q p1 p2 (by omega) e1 e2
set_option maxHeartbeats 1000000 in
theorem ins_spec (hg : g l = some (Dt bk xs)) (hr : bk.rw = true) (hm : xs.length = m) (hab : a ≤ b) (hb : b ≤ m) (hsz : m < 100000) {K : Cont}
    (hK : ∀ ys g' n', Sws a b xs ys → SrtW a b ys → Fr l g g' → g' l = some (Dt bk ys) → K (.tuple #[]) g' n') : AC slices_insertionSortOrdered_uint64_id [sV l m cc, .int .i64 (a : Nat), .int .i64 (b : Nat)] g n K := by
  refine ACalls.fold X0_mono ?_
  rw [← slices_insertionSortOrdered_uint64_eq]
  simp only [slices_insertionSortOrdered_uint64, kBin_add]
  rw [i64 (k := a + 1) (by omega) (by omega)]
  refine lfp_ind (m := b) (Inv := fun mm t g1 n1 => ∃ (i : Nat) (zs : List Int), b - i ≤ mm ∧ a + 1 ≤ i ∧ t 0 = sV l m cc ∧ t 1 = .int .i64 (a : Nat) ∧ t 2 = .int .i64 (b : Nat) ∧ t 6 = .int .i64 (i : Nat) ∧ Fr l g g1 ∧ g1 l = some (Dt bk zs) ∧ Sws a b xs zs ∧ SrtW a i zs) ?_
    ⟨a + 1, xs, by omega, by omega, rfl, rfl, rfl, rfl, Fr.refl _ _, hg, .refl _, fun p q p1 p2 p3 => by
      have : p = q := by clear hsz; omega
      subst this; exact Int.le_refl _⟩
  rintro I mm t g1 n1 ih ⟨i, zs, hmm, hi1, t0, t1, t2, t6, f1, hg1, hS, hs⟩
  have hzl := hS.len
  simp only [slices_insertionSortOrdered_uint64_l1, t2, t6, kBin_lss]
  refine kSplit_d (fun hib => ?_) (fun hib => ?_)
  · have hib : i < b := by omega
    refine lfp_ind (m := i) (Inv := fun m2 t g2 n2 => ∃ (j : Nat) (ws : List Int), j ≤ m2 ∧ a ≤ j ∧ j ≤ i ∧ t 0 = sV l m cc ∧ t 1 = .int .i64 (a : Nat) ∧ t 2 = .int .i64 (b : Nat) ∧ t 6 = .int .i64 (i : Nat) ∧ t 7 = .int .i64 (j : Nat) ∧ Fr l g g2 ∧ g2 l = some (Dt bk ws) ∧ Sws a b xs ws ∧ AlS a i j ws) ?_
      ⟨i, zs, by omega, by omega, by omega, t0, t1, t2, t6, rfl, f1, hg1, hS, AlS.first hs⟩
    rintro I2 m2 t g2 n2 ih2 ⟨j, ws, hm2, hj1, hj2, t0, t1, t2, t6, t7, f2, hg2, hS2, hA⟩
    have hwl := hS2.len
    have done : ∀ t' : Env, t' 0 = sV l m cc → t' 1 = .int .i64 (a : Nat) → t' 2 = .int .i64 (b : Nat) → t' 6 = .int .i64 (i : Nat) → ∀ n', SrtW a (i + 1) ws → slices_insertionSortOrdered_uint64_j5 AC K I t' g2 n' := by
      intro t' q0 q1 q2 q6 n' hs'
      simp only [slices_insertionSortOrdered_uint64_j5, q6, kBin_add]
      rw [i64 (k := i + 1) (by omega) (by omega)]
      exact ih (mm - 1) _ _ _ (by omega) ⟨i + 1, ws, by omega, by omega, q0, q1, q2, rfl, f2, hg2, hS2, hs'⟩
    simp only [slices_insertionSortOrdered_uint64_l2, t0, t1, t7, kBin_gtr]
    refine kSplit_d (fun hja => ?_) (fun hja => ?_)
    · have hja : a < j := by omega
      refine ixD (by omega) (ldD hg2 (by omega) ?_)
      rw [kBin_sub, i64 (k := j - 1) (by omega) (by omega)]
      refine ixD (by omega) (ldD hg2 (by omega) (Less_spec fun n' => ?_))
      have j3t : ∀ t' : Env, t' 30 = .bool true → t' 0 = sV l m cc → t' 1 = .int .i64 (a : Nat) → t' 2 = .int .i64 (b : Nat) → t' 6 = .int .i64 (i : Nat) → t' 7 = .int .i64 (j : Nat) → ws.getD j 0 < ws.getD (j - 1) 0 → slices_insertionSortOrdered_uint64_j3 AC K I I2 t' g2 n' := by
        intro t' q30 q0 q1 q2 q6 q7 hlt
        simp only [slices_insertionSortOrdered_uint64_j3, slices_insertionSortOrdered_uint64_j4, q30, q0, q7, kBin_sub]
        rw [i64 (k := j - 1) (by omega) (by omega)]
        refine kSplit_t rfl (swpD hg2 hr (by omega) (by omega) (by omega) ?_)
        show kBin .int .sub (t' 7) _ _
        rw [q7, kBin_sub, i64 (k := j - 1) (by omega) (by omega)]
        exact ih2 (m2 - 1) _ _ _ (by omega) ⟨j - 1, sw ws j (j - 1), by omega, by omega, by omega, q0, q1, q2, q6, rfl, f2.trans (Fr.upd _ _ _), upd_same _ _ _, .step hS2 (by omega) (by omega) (by omega) (by omega) (by omega), hA.step hja hj2 (by omega) hlt⟩
      have j3f : ∀ t' : Env, t' 30 = .bool false → t' 0 = sV l m cc → t' 1 = .int .i64 (a : Nat) → t' 2 = .int .i64 (b : Nat) → t' 6 = .int .i64 (i : Nat) → ws.getD (j - 1) 0 ≤ ws.getD j 0 → slices_insertionSortOrdered_uint64_j3 AC K I I2 t' g2 n' := by
        intro t' q30 q0 q1 q2 q6 hlt
        simp only [slices_insertionSortOrdered_uint64_j3, q30]
        exact kSplit_f rfl (done _ q0 q1 q2 q6 _ (hA.last (by omega) fun _ => hlt))
      by_cases hlt : ws.getD j 0 < ws.getD (j - 1) 0
      · exact j3t _ (by show Value.bool (decide _) = _; rw [decide_eq_true hlt]) t0 t1 t2 t6 t7 hlt
      · exact j3f _ (by show Value.bool (decide _) = _; rw [decide_eq_false hlt]) t0 t1 t2 t6 (by omega)
    · have hja : j = a := by omega
      have j3f : ∀ t' : Env, t' 30 = .bool false → t' 0 = sV l m cc → t' 1 = .int .i64 (a : Nat) → t' 2 = .int .i64 (b : Nat) → t' 6 = .int .i64 (i : Nat) → slices_insertionSortOrdered_uint64_j3 AC K I I2 t' g2 n2 := by
        intro t' q30 q0 q1 q2 q6
        simp only [slices_insertionSortOrdered_uint64_j3, q30]
        exact kSplit_f rfl (done _ q0 q1 q2 q6 _ (hA.last (by omega) fun h => by omega))
      exact j3f _ rfl t0 t1 t2 t6
  · exact aRet_of (Sub.refl _) (hK zs g1 _ hS (fun p q p1 p2 p3 => hs p q p1 p2 (by omega)) f1 hg1)
set_option maxHeartbeats 1000000 in
theorem rev_spec (hg : g l = some (Dt bk xs)) (hr : bk.rw = true) (hm : xs.length = m) (hab : a < b) (hb : b ≤ m) (hsz : m < 100000) {K : Cont}
    (hK : ∀ ys g' n', Sws a b xs ys → Fr l g g' → g' l = some (Dt bk ys) → K (.tuple #[]) g' n') : AC slices_reverseRangeOrdered_uint64_id [sV l m cc, .int .i64 (a : Nat), .int .i64 (b : Nat)] g n K := by
  refine ACalls.fold X0_mono ?_
  rw [← slices_reverseRangeOrdered_uint64_eq]
  simp only [slices_reverseRangeOrdered_uint64, kBin_sub]
  rw [i64 (k := b - 1) (by omega) (by omega)]
  refine lfp_ind (m := b) (Inv := fun mm t g1 n1 => ∃ (i j : Nat) (zs : List Int), j ≤ mm ∧ a ≤ i ∧ j < b ∧ t 0 = sV l m cc ∧ t 6 = .int .i64 (i : Nat) ∧ t 7 = .int .i64 (j : Nat) ∧ Fr l g g1 ∧ g1 l = some (Dt bk zs) ∧ Sws a b xs zs) ?_
    ⟨a, b - 1, xs, by omega, by omega, by omega, rfl, rfl, rfl, Fr.refl _ _, hg, .refl _⟩
  rintro I mm t g1 n1 ih ⟨i, j, zs, hmm, hi1, hj1, t0, t6, t7, f1, hg1, hS⟩
  have hzl := hS.len
  simp only [slices_reverseRangeOrdered_uint64_l1, t0, t6, t7, kBin_lss]
  refine kSplit_d (fun hij => ?_) (fun hij => ?_)
  · have hij : i < j := by omega
    refine swpD hg1 hr (by omega) (by omega) (by omega) ?_
    have j2 : ∀ t' : Env, t' 0 = sV l m cc → t' 6 = .int .i64 (i : Nat) → t' 7 = .int .i64 (j : Nat) → slices_reverseRangeOrdered_uint64_j2 AC K I t' (upd g1 l (some (Dt bk (sw zs i j)))) n1 := by
      intro t' q0 q6 q7
      simp only [slices_reverseRangeOrdered_uint64_j2, q6, q7, kBin_add, kBin_sub]
      rw [i64 (k := i + 1) (by omega) (by omega), i64 (k := j - 1) (by omega) (by omega)]
      exact ih (mm - 1) _ _ _ (by omega) ⟨i + 1, j - 1, sw zs i j, by omega, by omega, by omega, q0, rfl, rfl, f1.trans (Fr.upd _ _ _), upd_same _ _ _, .step hS (by omega) (by omega) (by omega) (by omega) (by omega)⟩
    exact j2 _ t0 t6 t7
  · exact aRet_of (Sub.refl _) (hK zs g1 _ hS f1 hg1)
end Go.Proofs.YtecojalpbppfeaaGreat.Gen

namespace Go.Proofs.YtecojalpbppfeaaGreat.Gen
open Go Go.Proofs.YtecojalpbppfeaaGreat.Abs Go.RowKit
variable {g : G} {n : Nat} {a b m l ls cc : Nat} {bk : BK} {xs ys zs : List Int}
theorem order2_spec {s : Int} (hg : g l = some (Dt bk xs)) (hm : xs.length = m) (ha : a < m) (hb : b < m) (hs : g ls = some (.cells [.int .i64 s] .exact)) (hne : ls ≠ l) {K : Cont}
    (hK : ∀ (p q : Nat) s' g' n', (p = a ∧ q = b ∨ p = b ∧ q = a) → Fr ls g g' → g' ls = some (.cells [.int .i64 s'] .exact) → K (.tuple #[.int .i64 (p : Nat), .int .i64 (q : Nat)]) g' n') :
    AC slices_order2Ordered_uint64_id [sV l m cc, .int .i64 (a : Nat), .int .i64 (b : Nat), ptr ls 0] g n K := by
  refine ACalls.fold X0_mono ?_
  rw [← slices_order2Ordered_uint64_eq]
  simp only [slices_order2Ordered_uint64, slices_order2Ordered_uint64_j1]
  refine ixD hb (ldD hg (by omega) (ixD ha (ldD hg (by omega) (Less_spec fun n' => ?_))))
  refine kSplit_d (fun _ => ?_) (fun _ => ?_)
  · show kNil (ptr ls 0) _
    rw [kNil_p, kPtr_p]
    refine kLd_of hs rfl ?_
    rw [kBin_add]
    show kNil (ptr ls 0) _
    rw [kNil_p, kPtr_p]
    refine kSt_of hs rfl (by simp) rfl (aRet_of (Sub.refl _) ?_)
    exact hK b a _ _ _ (.inr ⟨rfl, rfl⟩) (Fr.upd _ _ _) (upd_same _ _ _)
  · exact aRet_of (Sub.refl _) (hK a b s _ _ (.inl ⟨rfl, rfl⟩) (Fr.refl _ _) hs)
theorem median_spec {a b c : Nat} {s : Int} (hg : g l = some (Dt bk xs)) (hm : xs.length = m) (ha : a < m) (hb : b < m) (hc : c < m) (hs : g ls = some (.cells [.int .i64 s] .exact)) (hne : ls ≠ l) {K : Cont}
    (hK : ∀ (r : Nat) s' g' n', (r = a ∨ r = b ∨ r = c) → Fr ls g g' → g' ls = some (.cells [.int .i64 s'] .exact) → K (.int .i64 (r : Nat)) g' n') :
    AC slices_medianOrdered_uint64_id [sV l m cc, .int .i64 (a : Nat), .int .i64 (b : Nat), .int .i64 (c : Nat), ptr ls 0] g n K := by
  refine ACalls.fold X0_mono ?_
  rw [← slices_medianOrdered_uint64_eq]
  simp only [slices_medianOrdered_uint64]
  refine order2_spec hg hm ha hb hs hne (fun p q s1 g1 n1 h1 f1 hs1 => ?_)
  rw [kExtract_t [_, _], kGet_zero, kExtract_t [_, _], kGet_succ, kGet_zero]
  have hg1 := f1 l _ (fun e => hne e.symm) hg
  have hq : q < m := by rcases h1 with ⟨_, rfl⟩ | ⟨_, rfl⟩ <;> assumption
  have hp : p < m := by rcases h1 with ⟨rfl, _⟩ | ⟨rfl, _⟩ <;> assumption
  refine order2_spec hg1 hm hq hc hs1 hne (fun p2 q2 s2 g2 n2 h2 f2 hs2 => ?_)
  rw [kExtract_t [_, _], kGet_zero, kExtract_t [_, _], kGet_succ, kGet_zero]
  have hg2 := f2 l _ (fun e => hne e.symm) hg1
  have hp2 : p2 < m := by rcases h2 with ⟨rfl, _⟩ | ⟨rfl, _⟩ <;> assumption
  refine order2_spec hg2 hm hp hp2 hs2 hne (fun p3 q3 s3 g3 n3 h3 f3 hs3 => ?_)
  rw [kExtract_t [_, _], kGet_zero, kExtract_t [_, _], kGet_succ, kGet_zero]
  refine aRet_of (Sub.refl _) (hK q3 s3 g3 n3 ?_ (f1.trans (f2.trans f3)) hs3)
  rcases h1 with ⟨rfl, rfl⟩ | ⟨rfl, rfl⟩ <;> rcases h2 with ⟨rfl, rfl⟩ | ⟨rfl, rfl⟩ <;> rcases h3 with ⟨rfl, rfl⟩ | ⟨rfl, rfl⟩ <;> simp
theorem tdivN (x k : Nat) (hk : 0 < k) (hx : x < 1000000) : IntKind.i64.wrap ((x : Int).tdiv k) = ((x / k : Nat) : Int) := by
  have : (x : Int).tdiv k = ((x / k : Nat) : Int) := by rw [Int.tdiv_eq_ediv_of_nonneg (by omega)]; rfl
  rw [this]
  have h := Nat.div_le_self x k
  generalize x / k = q at h ⊢
  exact wrap64_of (by omega) (by omega)
theorem choose_spec (hg : g l = some (Dt bk xs)) (hm : xs.length = m) (h8 : a + 8 ≤ b) (hb : b ≤ m) (h50 : b < a + 50) (hsz : m < 100000) {K : Cont}
    (hK : ∀ (p : Nat) (h : Int) g' n', a ≤ p → p < b → Sub g g' → K (.tuple #[.int .i64 (p : Nat), .int .i64 h]) g' n') :
    AC slices_choosePivotOrdered_uint64_id [sV l m cc, .int .i64 (a : Nat), .int .i64 (b : Nat)] g n K := by
  refine ACalls.fold X0_mono ?_
  rw [← slices_choosePivotOrdered_uint64_eq]
  simp only [slices_choosePivotOrdered_uint64, kBin_sub]
  rw [i64 (k := b - a) (by omega) (by omega)]
  intro hn
  have s1 := (Sub.refl g).new hn (some (.cells [.int .i64 0] .exact))
  have hb1 : upd g n (some (.cells [.int .i64 0] .exact)) n = some (.cells [.int .i64 0] .exact) := upd_same _ _ _
  have hg1 := s1.live hg
  have hne : n ≠ l := fun e => by rw [e, hg] at hn; cases hn
  generalize upd g n (some (.cells [.int .i64 0] .exact)) = g1 at s1 hb1 hg1
  have q4 := tdivN (b - a) 4 (by omega) (by omega)
  have h4 : (b - a) / 4 * 4 ≤ b - a := Nat.div_mul_le_self _ _
  generalize (b - a) / 4 = d at q4 h4
  simp only [kBin_quo, kBin_mul, kBin_add, kBin_geq]
  rw [show ((4 : Int)) = ((4 : Nat) : Int) from rfl, q4]
  refine ⟨by simp, ?_⟩
  rw [i64 (x := (d : Int) * 1) (k := d) (by omega) (by omega), i64 (k := a + d) (by omega) (by omega)]
  refine ⟨by simp, ?_⟩
  rw [i64 (x := (d : Int) * 2) (k := d * 2) (by omega) (by omega), i64 (k := a + d * 2) (by omega) (by omega)]
  refine ⟨by simp, ?_⟩
  rw [i64 (x := (d : Int) * 3) (k := d * 3) (by omega) (by omega), i64 (k := a + d * 3) (by omega) (by omega)]
  refine kSplit_t (by simp; omega) (kSplit_f (by simp; omega) ?_)
  simp only [slices_choosePivotOrdered_uint64_j1]
  refine median_spec (ls := n) hg1 hm (by omega) (by omega) (by omega) hb1 hne (fun r s' g2 n2 hr f2 hs2 => ?_)
  simp only [slices_choosePivotOrdered_uint64_j2]
  have hs : Sub g g2 := fun x => by
    cases hq : g x with
    | none => exact .inl rfl
    | some b' => exact .inr (f2 x _ (fun e => by subst e; rw [hn] at hq; cases hq) (s1.live hq)).symm
  show kPtr (ptr n 0) _
  rw [kPtr_p]
  refine kLd_of hs2 rfl ?_
  rw [kBin_eql]
  have fin : ∀ h : Int, aRet K (.tuple #[.int .i64 (r : Nat), .int .i64 h]) g2 n2 := fun h => aRet_of (Sub.refl _) (hK r h _ _ (by omega) (by omega) hs)
  refine kSplit_d (fun _ => fin 1) (fun _ => ?_)
  rw [kBin_eql]
  exact kSplit_d (fun _ => fin 2) (fun _ => fin 0)
/-- a scan of what is sorted -/
theorem SrtW.snoc {i : Nat} (h : SrtW a i xs) (hi : a < i) (hle : xs.getD (i - 1) 0 ≤ xs.getD i 0) : SrtW a (i + 1) xs := by
  intro p q p1 p2 p3
  by_cases e : q = i
  · subst e
    by_cases e2 : p = q
    · subst e2; exact Int.le_refl _
    · have := h p (q - 1) p1 (by omega) (by omega); omega
  · exact h p q p1 p2 (by omega)
theorem partial_spec (hg : g l = some (Dt bk xs)) (hm : xs.length = m) (hab : a < b) (hb : b ≤ m) (h50 : b < a + 50) (hsz : m < 100000) {K : Cont}
    (hK : ∀ (r : Bool) n', (r = true → SrtW a b xs) → K (.bool r) g n') :
    AC slices_partialInsertionSortOrdered_uint64_id [sV l m cc, .int .i64 (a : Nat), .int .i64 (b : Nat)] g n K := by
  refine ACalls.fold X0_mono ?_
  rw [← slices_partialInsertionSortOrdered_uint64_eq]
  simp only [slices_partialInsertionSortOrdered_uint64, kBin_add]
  rw [i64 (k := a + 1) (by omega) (by omega)]
  -- one round of the outer loop is the last one
  refine lfp_ind (m := 0) (Inv := fun _ t g1 _ => g1 = g ∧ t 0 = sV l m cc ∧ t 1 = .int .i64 (a : Nat) ∧ t 2 = .int .i64 (b : Nat) ∧ t 7 = .int .i64 ((a + 1 : Nat) : Int) ∧ t 8 = .int .i64 0) ?_ ⟨rfl, rfl, rfl, rfl, rfl, rfl⟩
  rintro I mm t g1 n1 _ ⟨rfl, t0, t1, t2, t7, t8⟩
  simp only [slices_partialInsertionSortOrdered_uint64_l1, t8, kBin_lss]
  refine kSplit_t (by simp) ?_
  refine lfp_ind (m := b) (Inv := fun mm t g2 _ => ∃ i : Nat, b - i ≤ mm ∧ g2 = g1 ∧ a < i ∧ i ≤ b ∧ t 0 = sV l m cc ∧ t 1 = .int .i64 (a : Nat) ∧ t 2 = .int .i64 (b : Nat) ∧ t 7 = .int .i64 (i : Nat) ∧ SrtW a i xs) ?_
    ⟨a + 1, by omega, rfl, by omega, by omega, t0, t1, t2, t7, fun p q p1 p2 p3 => by
      have : p = q := by omega
      subst this; exact Int.le_refl _⟩
  rintro I2 mm t g2 n2 ih ⟨i, hmm, rfl, hai, hib, t0, t1, t2, t7, hs⟩
  simp only [slices_partialInsertionSortOrdered_uint64_l2, t0, t2, t7, kBin_lss]
  have j4 : ∀ (t' : Env) (n' : Nat), t' 1 = .int .i64 (a : Nat) → t' 2 = .int .i64 (b : Nat) → t' 7 = .int .i64 (i : Nat) → slices_partialInsertionSortOrdered_uint64_j4 AC K I t' g2 n' := by
    intro t' n' q1 q2 q7
    simp only [slices_partialInsertionSortOrdered_uint64_j4, q1, q2, q7, kBin_eql]
    refine kSplit_d (fun he => aRet_of (Sub.refl _) (hK true _ fun _ => ?_)) (fun he => ?_)
    · have : i = b := by omega
      subst this; exact hs
    · rw [kBin_sub, i64 (k := b - a) (by omega) (by omega), kBin_lss]
      exact kSplit_t (by simp; omega) (aRet_of (Sub.refl _) (hK false _ fun h => by cases h))
  refine kSplit_d (fun hlt => ?_) (fun hlt => ?_)
  · have hlt : i < b := by omega
    refine ixD (by omega) (ldD hg (by omega) ?_)
    rw [kBin_sub, i64 (k := i - 1) (by omega) (by omega)]
    refine ixD (by omega) (ldD hg (by omega) (Less_spec fun n' => ?_))
    rw [kUn_not]
    by_cases hle : xs.getD i 0 < xs.getD (i - 1) 0
    · have j3 : ∀ t' : Env, t' 32 = .bool false → t' 1 = .int .i64 (a : Nat) → t' 2 = .int .i64 (b : Nat) → t' 7 = .int .i64 (i : Nat) → slices_partialInsertionSortOrdered_uint64_j3 AC K I I2 t' g2 n' := by
        intro t' q32 q1 q2 q7
        simp only [slices_partialInsertionSortOrdered_uint64_j3, q32]
        exact kSplit_f rfl (j4 _ _ q1 q2 q7)
      exact j3 _ (by show Value.bool (!decide _) = _; rw [decide_eq_true hle]; rfl) t1 t2 t7
    · have j3 : ∀ t' : Env, t' 32 = .bool true → t' 0 = sV l m cc → t' 1 = .int .i64 (a : Nat) → t' 2 = .int .i64 (b : Nat) → t' 7 = .int .i64 (i : Nat) → slices_partialInsertionSortOrdered_uint64_j3 AC K I I2 t' g2 n' := by
        intro t' q32 q0 q1 q2 q7
        simp only [slices_partialInsertionSortOrdered_uint64_j3, q32, q7, kBin_add]
        rw [i64 (k := i + 1) (by omega) (by omega)]
        exact kSplit_t rfl (ih (mm - 1) _ _ _ (by omega) ⟨i + 1, by omega, rfl, by omega, by omega, q0, q1, q2, rfl, hs.snoc hai (by omega)⟩)
      exact j3 _ (by show Value.bool (!decide _) = _; rw [decide_eq_false hle]; rfl) t0 t1 t2 t7
  · have j3 : ∀ t' : Env, t' 32 = .bool false → t' 1 = .int .i64 (a : Nat) → t' 2 = .int .i64 (b : Nat) → t' 7 = .int .i64 (i : Nat) → slices_partialInsertionSortOrdered_uint64_j3 AC K I I2 t' g2 n2 := by
      intro t' q32 q1 q2 q7
      simp only [slices_partialInsertionSortOrdered_uint64_j3, q32]
      exact kSplit_f rfl (j4 _ _ q1 q2 q7)
    exact j3 _ rfl t1 t2 t7
end Go.Proofs.YtecojalpbppfeaaGreat.Gen

namespace Go.Proofs.YtecojalpbppfeaaGreat.Gen
open Go Go.Proofs.YtecojalpbppfeaaGreat.Abs Go.RowKit
variable {g : G} {n : Nat} {a b m l cc : Nat} {bk : BK} {xs ys zs : List Int}
/-- what two scans have shown -/
structure Pt (a b i j : Nat) (zs : List Int) : Prop where
  i1 : a + 1 ≤ i
  ij : i ≤ j + 1
  jb : j < b
  lo : ∀ k, a < k → k < i → zs.getD k 0 ≤ zs.getD a 0
  hi : ∀ k, j < k → k < b → zs.getD a 0 ≤ zs.getD k 0
theorem Pt.first (h : a < b) : Pt a b (a + 1) (b - 1) zs := ⟨by omega, by omega, by omega, fun k h1 h2 => by omega, fun k h1 h2 => by omega⟩
theorem Pt.up {i j : Nat} (h : Pt a b i j zs) (hij : i ≤ j) (hle : zs.getD i 0 ≤ zs.getD a 0) : Pt a b (i + 1) j zs :=
  ⟨by have := h.i1; omega, by omega, h.jb, fun k h1 h2 => by
    by_cases e : k = i
    · subst e; exact hle
    · exact h.lo k h1 (by omega), h.hi⟩
theorem Pt.down {i j : Nat} (h : Pt a b i j zs) (hij : i ≤ j) (hle : zs.getD a 0 ≤ zs.getD j 0) : Pt a b i (j - 1) zs :=
  ⟨h.i1, by omega, by have := h.jb; omega, h.lo, fun k h1 h2 => by
    by_cases e : k = j
    · subst e; exact hle
    · exact h.hi k (by omega) h2⟩
theorem Pt.swap {i j : Nat} (h : Pt a b i j zs) (hij : i < j) (hb : b ≤ zs.length) (h1 : zs.getD j 0 ≤ zs.getD a 0) (h2 : zs.getD a 0 ≤ zs.getD i 0) : Pt a b (i + 1) (j - 1) (sw zs i j) := by
  have q1 := h.i1
  have q2 := h.jb
  have hg := sw_get (xs := zs) (i := i) (j := j) (by omega) (by omega)
  refine ⟨by omega, by omega, by omega, fun k k1 k2 => ?_, fun k k1 k2 => ?_⟩
  · rw [hg, hg, if_neg (by omega), if_neg (show ¬ a = j by omega), if_neg (show ¬ a = i by omega)]
    by_cases e : k = i
    · rw [if_pos e]; exact h1
    · rw [if_neg e]; exact h.lo k k1 (by omega)
  · rw [hg, hg, if_neg (show ¬ a = j by omega), if_neg (show ¬ a = i by omega)]
    by_cases e : k = j
    · rw [if_pos e]; exact h2
    · rw [if_neg e, if_neg (by omega)]; exact h.hi k (by omega) k2
/-- what a partition has come to -/
structure Par (a b mid : Nat) (xs ys : List Int) : Prop where
  sws : Sws a b xs ys
  am : a ≤ mid
  mb : mid < b
  lo : ∀ k, a ≤ k → k < mid → ys.getD k 0 ≤ ys.getD mid 0
  hi : ∀ k, mid < k → k < b → ys.getD mid 0 ≤ ys.getD k 0
theorem Pt.par {i j : Nat} (h : Pt a b i j zs) (hij : j < i) (hS : Sws a b xs zs) (hb : b ≤ zs.length) : Par a b j xs (sw zs j a) := by
  have q1 := h.i1
  have q2 := h.ij
  have q3 := h.jb
  have hg := sw_get (xs := zs) (i := j) (j := a) (by omega) (by omega)
  refine ⟨.step hS (by omega) (by omega) (by omega) (by omega) (by omega), by omega, by omega, fun k k1 k2 => ?_, fun k k1 k2 => ?_⟩
  · rw [hg, hg]
    by_cases e1 : j = a
    · omega
    · rw [if_neg e1, if_pos (show j = j from rfl)]
      by_cases e : k = a
      · rw [if_pos e]; exact h.lo j (by omega) (by omega)
      · rw [if_neg e, if_neg (by omega)]; exact h.lo k (by omega) (by omega)
  · rw [hg, hg, if_neg (show ¬ k = a by omega), if_neg (show ¬ k = j by omega)]
    by_cases e1 : j = a
    · rw [if_pos e1]; subst e1; exact h.hi k k1 k2
    · rw [if_neg e1, if_pos rfl]; exact h.hi k k1 k2

set_option maxHeartbeats 2000000 in
theorem partL_spec (hr : bk.rw = true) (hb : b ≤ m) (hsz : m < 100000) {K : Cont} (hm : xs.length = m)
    (hK : ∀ (mid : Nat) ys g' n', Par a b mid xs ys → Fr l g g' → g' l = some (Dt bk ys) → K (.tuple #[.int .i64 (mid : Nat), .bool false]) g' n')
    (i j : Nat) (t : Env) (g1 : G) (n1 : Nat) (hS : Sws a b xs zs) (hPt : Pt a b i j zs) (f1 : Fr l g g1) (hg1 : g1 l = some (Dt bk zs)) (t0 : t 0 = sV l m cc) (t1 : t 1 = .int .i64 (a : Nat)) (t10 : t 10 = .int .i64 (i : Nat)) (t11 : t 11 = .int .i64 (j : Nat)) : lfp (slices_partitionOrdered_uint64_l10 AC K) t g1 n1 := by
  refine lfp_ind (m := b - i) (Inv := fun mm t g2 _ => ∃ (i j : Nat) (zs : List Int), b - i ≤ mm ∧ Sws a b xs zs ∧ Pt a b i j zs ∧ Fr l g g2 ∧ g2 l = some (Dt bk zs) ∧ t 0 = sV l m cc ∧ t 1 = .int .i64 (a : Nat) ∧ t 10 = .int .i64 (i : Nat) ∧ t 11 = .int .i64 (j : Nat)) ?_ ⟨i, j, zs, Nat.le_refl _, hS, hPt, f1, hg1, t0, t1, t10, t11⟩
  clear hS hPt f1 hg1 t0 t1 t10 t11
  rintro I mm t g2 n2 ih ⟨i0, j0, zs, hmm, hS, hPt0, f2, hg2, t0, t1, t10, t11⟩
  have hzl := hS.len
  have hi0 : i0 ≤ i0 := Nat.le_refl _
  have stopD : ∀ (i j : Nat) (t : Env) (n2 : Nat), Pt a b i j zs → i0 ≤ i → (i ≤ j → zs.getD a 0 ≤ zs.getD i 0) → (i ≤ j → zs.getD j 0 < zs.getD a 0) → t 0 = sV l m cc → t 1 = .int .i64 (a : Nat) → t 10 = .int .i64 (i : Nat) → t 11 = .int .i64 (j : Nat) → slices_partitionOrdered_uint64_j16 AC K I t g2 n2 := by
    intro i j t n2 hPt hge hup hdn t0 t1 t10 t11
    have q1 := hPt.i1
    have q2 := hPt.ij
    have q3 := hPt.jb
    simp only [slices_partitionOrdered_uint64_j16, t0, t10, t11, kBin_gtr]
    refine kSplit_d (fun hij => ?_) (fun hij => ?_)
    · have j17 : ∀ t' : Env, t' 0 = sV l m cc → t' 1 = .int .i64 (a : Nat) → t' 11 = .int .i64 (j : Nat) → slices_partitionOrdered_uint64_j17 AC K t' g2 n2 := by
        intro t' q0 q1' q11
        simp only [slices_partitionOrdered_uint64_j17, slices_partitionOrdered_uint64_j18, q0, q1', q11]
        refine swpD hg2 hr (by omega) (by omega) (by omega) ?_
        show aRet K (.tuple #[t' 11, .bool false]) _ _
        rw [q11]
        exact aRet_of (Sub.refl _) (hK j _ _ _ (hPt.par (by omega) hS (by omega)) (f2.trans (Fr.upd _ _ _)) (upd_same _ _ _))
      exact j17 _ t0 t1 t11
    · have h1 := hup (by omega)
      have h2 := hdn (by omega)
      have hne : i ≠ j := fun e => by subst e; omega
      refine swpD hg2 hr (by omega) (by omega) (by omega) ?_
      have j19 : ∀ t' : Env, t' 0 = sV l m cc → t' 1 = .int .i64 (a : Nat) → t' 10 = .int .i64 (i : Nat) → t' 11 = .int .i64 (j : Nat) → slices_partitionOrdered_uint64_j19 AC K I t' (upd g2 l (some (Dt bk (sw zs i j)))) n2 := by
        intro t' q0 q1' q10 q11
        simp only [slices_partitionOrdered_uint64_j19, q10, q11, kBin_add, kBin_sub]
        rw [i64 (k := i + 1) (by omega) (by omega), i64 (k := j - 1) (by omega) (by omega)]
        exact ih (b - (i + 1)) _ _ _ (by omega) ⟨i + 1, j - 1, sw zs i j, Nat.le_refl _, .step hS (by omega) (by omega) (by omega) (by omega) (by omega), hPt.swap (by omega) (by omega) (by omega) (by omega), f2.trans (Fr.upd _ _ _), upd_same _ _ _, q0, q1', rfl, rfl⟩
      exact j19 _ t0 t1 t10 t11
  have dn : ∀ (i j : Nat) (t : Env) (n2 : Nat), Pt a b i j zs → i0 ≤ i → (i ≤ j → zs.getD a 0 ≤ zs.getD i 0) → t 0 = sV l m cc → t 1 = .int .i64 (a : Nat) → t 10 = .int .i64 (i : Nat) → t 11 = .int .i64 (j : Nat) → lfp (slices_partitionOrdered_uint64_l14 AC K I) t g2 n2 := by
    intro i j t n2 hPt hge hup t0 t1 t10 t11
    refine lfp_ind (m := j) (Inv := fun mm t g3 _ => ∃ j : Nat, j ≤ mm ∧ g3 = g2 ∧ Pt a b i j zs ∧ (i ≤ j → zs.getD a 0 ≤ zs.getD i 0) ∧ t 0 = sV l m cc ∧ t 1 = .int .i64 (a : Nat) ∧ t 10 = .int .i64 (i : Nat) ∧ t 11 = .int .i64 (j : Nat)) ?_ ⟨j, Nat.le_refl _, rfl, hPt, hup, t0, t1, t10, t11⟩
    clear hPt hup t0 t1 t10 t11
    rintro I5 mm t g3 n3 ih ⟨j, hmm, rfl, hPt, hup, t0, t1, t10, t11⟩
    have q1 := hPt.i1
    have q2 := hPt.ij
    have q3 := hPt.jb
    simp only [slices_partitionOrdered_uint64_l14, t0, t1, t10, t11, kBin_leq]
    refine kSplit_d (fun hij => ?_) (fun hij => ?_)
    · have hij : i ≤ j := by omega
      refine ixD (by omega) (ldD hg2 (by omega) (ixD (by omega) (ldD hg2 (by omega) (Less_spec fun n' => ?_))))
      rw [kUn_not]
      by_cases hc : zs.getD j 0 < zs.getD a 0
      · have jj : ∀ t' : Env, t' 129 = .bool false → t' 0 = sV l m cc → t' 1 = .int .i64 (a : Nat) → t' 10 = .int .i64 (i : Nat) → t' 11 = .int .i64 (j : Nat) → slices_partitionOrdered_uint64_j15 AC K I I5 t' g3 n' := by
          intro t' qs q0 q1 q10 q11
          simp only [slices_partitionOrdered_uint64_j15, qs, q11, kBin_sub]
          exact kSplit_f rfl (stopD i j _ _ hPt hge hup (fun _ => hc) q0 q1 q10 q11)
        exact jj _ (by show Value.bool (!decide _) = _; rw [decide_eq_true hc]; rfl) t0 t1 t10 t11
      · have jj : ∀ t' : Env, t' 129 = .bool true → t' 0 = sV l m cc → t' 1 = .int .i64 (a : Nat) → t' 10 = .int .i64 (i : Nat) → t' 11 = .int .i64 (j : Nat) → slices_partitionOrdered_uint64_j15 AC K I I5 t' g3 n' := by
          intro t' qs q0 q1 q10 q11
          simp only [slices_partitionOrdered_uint64_j15, qs, q11, kBin_sub]
          rw [i64 (k := j - 1) (by omega) (by omega)]
          exact kSplit_t rfl (ih (mm - 1) _ _ _ (by omega) ⟨j - 1, by omega, rfl, hPt.down hij (by omega), fun h => hup (by omega), q0, q1, q10, rfl⟩)
        exact jj _ (by show Value.bool (!decide _) = _; rw [decide_eq_false hc]; rfl) t0 t1 t10 t11
    · have jj : ∀ t' : Env, t' 129 = .bool false → t' 0 = sV l m cc → t' 1 = .int .i64 (a : Nat) → t' 10 = .int .i64 (i : Nat) → t' 11 = .int .i64 (j : Nat) → slices_partitionOrdered_uint64_j15 AC K I I5 t' g3 n3 := by
        intro t' qs q0 q1 q10 q11
        simp only [slices_partitionOrdered_uint64_j15, qs]
        exact kSplit_f rfl (stopD i j _ _ hPt hge hup (fun h => by omega) q0 q1 q10 q11)
      exact jj _ rfl t0 t1 t10 t11
  have upS : ∀ (i j : Nat) (t : Env) (n2 : Nat), Pt a b i j zs → i0 ≤ i → t 0 = sV l m cc → t 1 = .int .i64 (a : Nat) → t 10 = .int .i64 (i : Nat) → t 11 = .int .i64 (j : Nat) → lfp (slices_partitionOrdered_uint64_l11 AC K I) t g2 n2 := by
    intro i j t n2 hPt hge t0 t1 t10 t11
    refine lfp_ind (m := b - i) (Inv := fun mm t g3 _ => ∃ i : Nat, b - i ≤ mm ∧ g3 = g2 ∧ Pt a b i j zs ∧ i0 ≤ i ∧ t 0 = sV l m cc ∧ t 1 = .int .i64 (a : Nat) ∧ t 10 = .int .i64 (i : Nat) ∧ t 11 = .int .i64 (j : Nat)) ?_ ⟨i, Nat.le_refl _, rfl, hPt, hge, t0, t1, t10, t11⟩
    clear hPt hge t0 t1 t10 t11
    rintro I5 mm t g3 n3 ih ⟨i, hmm, rfl, hPt, hge, t0, t1, t10, t11⟩
    have q1 := hPt.i1
    have q2 := hPt.ij
    have q3 := hPt.jb
    have go : ∀ (t' : Env) (n' : Nat), (i ≤ j → zs.getD a 0 ≤ zs.getD i 0) → t' 0 = sV l m cc → t' 1 = .int .i64 (a : Nat) → t' 10 = .int .i64 (i : Nat) → t' 11 = .int .i64 (j : Nat) → slices_partitionOrdered_uint64_j13 AC K I t' g3 n' := by
      intro t' n' h q0 q1 q10 q11
      simp only [slices_partitionOrdered_uint64_j13]
      exact dn i j t' n' hPt hge h q0 q1 q10 q11
    simp only [slices_partitionOrdered_uint64_l11, t0, t1, t10, t11, kBin_leq]
    refine kSplit_d (fun hij => ?_) (fun hij => ?_)
    · have hij : i ≤ j := by omega
      refine ixD (by omega) (ldD hg2 (by omega) (ixD (by omega) (ldD hg2 (by omega) (Less_spec fun n' => ?_))))
      skip
      by_cases hc : zs.getD i 0 < zs.getD a 0
      · have jj : ∀ t' : Env, t' 112 = .bool true → t' 0 = sV l m cc → t' 1 = .int .i64 (a : Nat) → t' 10 = .int .i64 (i : Nat) → t' 11 = .int .i64 (j : Nat) → slices_partitionOrdered_uint64_j12 AC K I I5 t' g3 n' := by
          intro t' qs q0 q1 q10 q11
          simp only [slices_partitionOrdered_uint64_j12, qs, q10, kBin_add]
          rw [i64 (k := i + 1) (by omega) (by omega)]
          exact kSplit_t rfl (ih (mm - 1) _ _ _ (by omega) ⟨i + 1, by omega, rfl, hPt.up hij (by omega), by omega, q0, q1, rfl, q11⟩)
        exact jj _ (by show Value.bool (decide _) = _; rw [decide_eq_true hc]) t0 t1 t10 t11
      · have jj : ∀ t' : Env, t' 112 = .bool false → t' 0 = sV l m cc → t' 1 = .int .i64 (a : Nat) → t' 10 = .int .i64 (i : Nat) → t' 11 = .int .i64 (j : Nat) → slices_partitionOrdered_uint64_j12 AC K I I5 t' g3 n' := by
          intro t' qs q0 q1 q10 q11
          simp only [slices_partitionOrdered_uint64_j12, qs, q10, kBin_add]
          exact kSplit_f rfl (go _ _ (fun _ => by omega) q0 q1 q10 q11)
        exact jj _ (by show Value.bool (decide _) = _; rw [decide_eq_false hc]) t0 t1 t10 t11
    · have jj : ∀ t' : Env, t' 112 = .bool false → t' 0 = sV l m cc → t' 1 = .int .i64 (a : Nat) → t' 10 = .int .i64 (i : Nat) → t' 11 = .int .i64 (j : Nat) → slices_partitionOrdered_uint64_j12 AC K I I5 t' g3 n3 := by
        intro t' qs q0 q1 q10 q11
        simp only [slices_partitionOrdered_uint64_j12, qs]
        exact kSplit_f rfl (go _ _ (fun h => by omega) q0 q1 q10 q11)
      exact jj _ rfl t0 t1 t10 t11
  simp only [slices_partitionOrdered_uint64_l10]
  exact upS i0 j0 t n2 hPt0 hi0 t0 t1 t10 t11
set_option maxHeartbeats 2000000 in
theorem part_spec {p : Nat} (hg : g l = some (Dt bk xs)) (hr : bk.rw = true) (hm : xs.length = m) (hp : a ≤ p) (hpb : p < b) (hb : b ≤ m) (hsz : m < 100000) {K : Cont}
    (hK : ∀ (mid : Nat) (al : Bool) ys g' n', Par a b mid xs ys → Fr l g g' → g' l = some (Dt bk ys) → K (.tuple #[.int .i64 (mid : Nat), .bool al]) g' n') :
    AC slices_partitionOrdered_uint64_id [sV l m cc, .int .i64 (a : Nat), .int .i64 (b : Nat), .int .i64 (p : Nat)] g n K := by
  refine ACalls.fold X0_mono ?_
  rw [← slices_partitionOrdered_uint64_eq]
  simp only [slices_partitionOrdered_uint64]
  refine swpD hg hr (by omega) (by omega) (by omega) ?_
  simp only [slices_partitionOrdered_uint64_j1]
  show kBin .int .add (.int .i64 (a : Nat)) _ _
  rw [kBin_add, i64 (k := a + 1) (by omega) (by omega)]
  show kBin .int .sub (.int .i64 (b : Nat)) _ _
  rw [kBin_sub, i64 (k := b - 1) (by omega) (by omega)]
  have hS : Sws a b xs (sw xs a p) := Sws.one (by omega) (by omega) (by omega) (by omega) (by omega)
  have f2 : Fr l g (upd g l (some (Dt bk (sw xs a p)))) := Fr.upd _ _ _
  have hg2 : upd g l (some (Dt bk (sw xs a p))) l = some (Dt bk (sw xs a p)) := upd_same _ _ _
  generalize upd g l (some (Dt bk (sw xs a p))) = g2 at f2 hg2
  generalize hzs : sw xs a p = zs at hS hg2
  have hzl := hS.len
  clear hzs
  have stopD : ∀ (i j : Nat) (t : Env) (n2 : Nat), Pt a b i j zs → (i ≤ j → zs.getD a 0 ≤ zs.getD i 0) → (i ≤ j → zs.getD j 0 < zs.getD a 0) → t 0 = sV l m cc → t 1 = .int .i64 (a : Nat) → t 10 = .int .i64 (i : Nat) → t 11 = .int .i64 (j : Nat) → slices_partitionOrdered_uint64_j7 AC K t g2 n2 := by
    intro i j t n2 hPt hup hdn t0 t1 t10 t11
    have q1 := hPt.i1
    have q2 := hPt.ij
    have q3 := hPt.jb
    simp only [slices_partitionOrdered_uint64_j7, t0, t1, t10, t11, kBin_gtr]
    refine kSplit_d (fun hij => ?_) (fun hij => ?_)
    · refine swpD hg2 hr (by omega) (by omega) (by omega) ?_
      simp only [slices_partitionOrdered_uint64_j8]
      show aRet K (.tuple #[t 11, .bool true]) _ _
      rw [t11]
      exact aRet_of (Sub.refl _) (hK j true _ _ _ (hPt.par (by omega) hS (by omega)) (f2.trans (Fr.upd _ _ _)) (upd_same _ _ _))
    · have h1 := hup (by omega)
      have h2 := hdn (by omega)
      have hne : i ≠ j := fun e => by subst e; omega
      refine swpD hg2 hr (by omega) (by omega) (by omega) ?_
      have j9 : ∀ t' : Env, t' 0 = sV l m cc → t' 1 = .int .i64 (a : Nat) → t' 10 = .int .i64 (i : Nat) → t' 11 = .int .i64 (j : Nat) → slices_partitionOrdered_uint64_j9 AC K t' (upd g2 l (some (Dt bk (sw zs i j)))) n2 := by
        intro t' q0 q1' q10 q11
        simp only [slices_partitionOrdered_uint64_j9, q10, q11, kBin_add, kBin_sub]
        rw [i64 (k := i + 1) (by omega) (by omega), i64 (k := j - 1) (by omega) (by omega)]
        exact partL_spec (g := g) (bk := bk) (cc := cc) hr hb hsz hm (fun mid ys g' n' => hK mid false ys g' n') (i + 1) (j - 1) _ _ _ (.step hS (by omega) (by omega) (by omega) (by omega) (by omega)) (hPt.swap (by omega) (by omega) (by omega) (by omega)) (f2.trans (Fr.upd _ _ _)) (upd_same _ _ _) q0 q1' rfl rfl
      exact j9 _ t0 t1 t10 t11
  have dn : ∀ (i j : Nat) (t : Env) (n2 : Nat), Pt a b i j zs → (i ≤ j → zs.getD a 0 ≤ zs.getD i 0) → t 0 = sV l m cc → t 1 = .int .i64 (a : Nat) → t 10 = .int .i64 (i : Nat) → t 11 = .int .i64 (j : Nat) → lfp (slices_partitionOrdered_uint64_l5 AC K) t g2 n2 := by
    intro i j t n2 hPt hup t0 t1 t10 t11
    refine lfp_ind (m := j) (Inv := fun mm t g3 _ => ∃ j : Nat, j ≤ mm ∧ g3 = g2 ∧ Pt a b i j zs ∧ (i ≤ j → zs.getD a 0 ≤ zs.getD i 0) ∧ t 0 = sV l m cc ∧ t 1 = .int .i64 (a : Nat) ∧ t 10 = .int .i64 (i : Nat) ∧ t 11 = .int .i64 (j : Nat)) ?_ ⟨j, Nat.le_refl _, rfl, hPt, hup, t0, t1, t10, t11⟩
    clear hPt hup t0 t1 t10 t11
    rintro I5 mm t g3 n3 ih ⟨j, hmm, rfl, hPt, hup, t0, t1, t10, t11⟩
    have q1 := hPt.i1
    have q2 := hPt.ij
    have q3 := hPt.jb
    simp only [slices_partitionOrdered_uint64_l5, t0, t1, t10, t11, kBin_leq]
    refine kSplit_d (fun hij => ?_) (fun hij => ?_)
    · have hij : i ≤ j := by omega
      refine ixD (by omega) (ldD hg2 (by omega) (ixD (by omega) (ldD hg2 (by omega) (Less_spec fun n' => ?_))))
      rw [kUn_not]
      by_cases hc : zs.getD j 0 < zs.getD a 0
      · have jj : ∀ t' : Env, t' 60 = .bool false → t' 0 = sV l m cc → t' 1 = .int .i64 (a : Nat) → t' 10 = .int .i64 (i : Nat) → t' 11 = .int .i64 (j : Nat) → slices_partitionOrdered_uint64_j6 AC K I5 t' g3 n' := by
          intro t' qs q0 q1 q10 q11
          simp only [slices_partitionOrdered_uint64_j6, qs, q11, kBin_sub]
          exact kSplit_f rfl (stopD i j _ _ hPt hup (fun _ => hc) q0 q1 q10 q11)
        exact jj _ (by show Value.bool (!decide _) = _; rw [decide_eq_true hc]; rfl) t0 t1 t10 t11
      · have jj : ∀ t' : Env, t' 60 = .bool true → t' 0 = sV l m cc → t' 1 = .int .i64 (a : Nat) → t' 10 = .int .i64 (i : Nat) → t' 11 = .int .i64 (j : Nat) → slices_partitionOrdered_uint64_j6 AC K I5 t' g3 n' := by
          intro t' qs q0 q1 q10 q11
          simp only [slices_partitionOrdered_uint64_j6, qs, q11, kBin_sub]
          rw [i64 (k := j - 1) (by omega) (by omega)]
          exact kSplit_t rfl (ih (mm - 1) _ _ _ (by omega) ⟨j - 1, by omega, rfl, hPt.down hij (by omega), fun h => hup (by omega), q0, q1, q10, rfl⟩)
        exact jj _ (by show Value.bool (!decide _) = _; rw [decide_eq_false hc]; rfl) t0 t1 t10 t11
    · have jj : ∀ t' : Env, t' 60 = .bool false → t' 0 = sV l m cc → t' 1 = .int .i64 (a : Nat) → t' 10 = .int .i64 (i : Nat) → t' 11 = .int .i64 (j : Nat) → slices_partitionOrdered_uint64_j6 AC K I5 t' g3 n3 := by
        intro t' qs q0 q1 q10 q11
        simp only [slices_partitionOrdered_uint64_j6, qs]
        exact kSplit_f rfl (stopD i j _ _ hPt hup (fun h => by omega) q0 q1 q10 q11)
      exact jj _ rfl t0 t1 t10 t11
  have upS : ∀ (i j : Nat) (t : Env) (n2 : Nat), Pt a b i j zs → t 0 = sV l m cc → t 1 = .int .i64 (a : Nat) → t 10 = .int .i64 (i : Nat) → t 11 = .int .i64 (j : Nat) → lfp (slices_partitionOrdered_uint64_l2 AC K) t g2 n2 := by
    intro i j t n2 hPt t0 t1 t10 t11
    refine lfp_ind (m := b - i) (Inv := fun mm t g3 _ => ∃ i : Nat, b - i ≤ mm ∧ g3 = g2 ∧ Pt a b i j zs ∧ t 0 = sV l m cc ∧ t 1 = .int .i64 (a : Nat) ∧ t 10 = .int .i64 (i : Nat) ∧ t 11 = .int .i64 (j : Nat)) ?_ ⟨i, Nat.le_refl _, rfl, hPt, t0, t1, t10, t11⟩
    clear hPt t0 t1 t10 t11
    rintro I5 mm t g3 n3 ih ⟨i, hmm, rfl, hPt, t0, t1, t10, t11⟩
    have q1 := hPt.i1
    have q2 := hPt.ij
    have q3 := hPt.jb
    have go : ∀ (t' : Env) (n' : Nat), (i ≤ j → zs.getD a 0 ≤ zs.getD i 0) → t' 0 = sV l m cc → t' 1 = .int .i64 (a : Nat) → t' 10 = .int .i64 (i : Nat) → t' 11 = .int .i64 (j : Nat) → slices_partitionOrdered_uint64_j4 AC K t' g3 n' := by
      intro t' n' h q0 q1 q10 q11
      simp only [slices_partitionOrdered_uint64_j4]
      exact dn i j t' n' hPt h q0 q1 q10 q11
    simp only [slices_partitionOrdered_uint64_l2, t0, t1, t10, t11, kBin_leq]
    refine kSplit_d (fun hij => ?_) (fun hij => ?_)
    · have hij : i ≤ j := by omega
      refine ixD (by omega) (ldD hg2 (by omega) (ixD (by omega) (ldD hg2 (by omega) (Less_spec fun n' => ?_))))
      skip
      by_cases hc : zs.getD i 0 < zs.getD a 0
      · have jj : ∀ t' : Env, t' 43 = .bool true → t' 0 = sV l m cc → t' 1 = .int .i64 (a : Nat) → t' 10 = .int .i64 (i : Nat) → t' 11 = .int .i64 (j : Nat) → slices_partitionOrdered_uint64_j3 AC K I5 t' g3 n' := by
          intro t' qs q0 q1 q10 q11
          simp only [slices_partitionOrdered_uint64_j3, qs, q10, kBin_add]
          rw [i64 (k := i + 1) (by omega) (by omega)]
          exact kSplit_t rfl (ih (mm - 1) _ _ _ (by omega) ⟨i + 1, by omega, rfl, hPt.up hij (by omega), q0, q1, rfl, q11⟩)
        exact jj _ (by show Value.bool (decide _) = _; rw [decide_eq_true hc]) t0 t1 t10 t11
      · have jj : ∀ t' : Env, t' 43 = .bool false → t' 0 = sV l m cc → t' 1 = .int .i64 (a : Nat) → t' 10 = .int .i64 (i : Nat) → t' 11 = .int .i64 (j : Nat) → slices_partitionOrdered_uint64_j3 AC K I5 t' g3 n' := by
          intro t' qs q0 q1 q10 q11
          simp only [slices_partitionOrdered_uint64_j3, qs, q10, kBin_add]
          exact kSplit_f rfl (go _ _ (fun _ => by omega) q0 q1 q10 q11)
        exact jj _ (by show Value.bool (decide _) = _; rw [decide_eq_false hc]) t0 t1 t10 t11
    · have jj : ∀ t' : Env, t' 43 = .bool false → t' 0 = sV l m cc → t' 1 = .int .i64 (a : Nat) → t' 10 = .int .i64 (i : Nat) → t' 11 = .int .i64 (j : Nat) → slices_partitionOrdered_uint64_j3 AC K I5 t' g3 n3 := by
        intro t' qs q0 q1 q10 q11
        simp only [slices_partitionOrdered_uint64_j3, qs]
        exact kSplit_f rfl (go _ _ (fun h => by omega) q0 q1 q10 q11)
      exact jj _ rfl t0 t1 t10 t11
  exact upS (a + 1) (b - 1) _ _ (Pt.first (by omega)) rfl rfl rfl rfl
/-- what a partition by equals has come to -/
structure ParE (a b mid : Nat) (v : Int) (xs ys : List Int) : Prop where
  sws : Sws a b xs ys
  am : a < mid
  mb : mid ≤ b
  lo : ∀ k, a ≤ k → k < mid → ys.getD k 0 ≤ v
  hi : ∀ k, mid ≤ k → k < b → v ≤ ys.getD k 0
set_option maxHeartbeats 2000000 in
theorem partE_spec {p : Nat} (hg : g l = some (Dt bk xs)) (hr : bk.rw = true) (hm : xs.length = m) (hp : a ≤ p) (hpb : p < b) (hb : b ≤ m) (hsz : m < 100000) {K : Cont}
    (hK : ∀ (mid : Nat) ys g' n', ParE a b mid (xs.getD p 0) xs ys → Fr l g g' → g' l = some (Dt bk ys) → K (.int .i64 (mid : Nat)) g' n') :
    AC slices_partitionEqualOrdered_uint64_id [sV l m cc, .int .i64 (a : Nat), .int .i64 (b : Nat), .int .i64 (p : Nat)] g n K := by
  refine ACalls.fold X0_mono ?_
  rw [← slices_partitionEqualOrdered_uint64_eq]
  simp only [slices_partitionEqualOrdered_uint64]
  refine swpD hg hr (by omega) (by omega) (by omega) ?_
  simp only [slices_partitionEqualOrdered_uint64_j1]
  show kBin .int .add (.int .i64 (a : Nat)) _ _
  rw [kBin_add, i64 (k := a + 1) (by omega) (by omega)]
  show kBin .int .sub (.int .i64 (b : Nat)) _ _
  rw [kBin_sub, i64 (k := b - 1) (by omega) (by omega)]
  have hS : Sws a b xs (sw xs a p) := Sws.one (by omega) (by omega) (by omega) (by omega) (by omega)
  have f2 : Fr l g (upd g l (some (Dt bk (sw xs a p)))) := Fr.upd _ _ _
  have hg2 : upd g l (some (Dt bk (sw xs a p))) l = some (Dt bk (sw xs a p)) := upd_same _ _ _
  have hpv : (sw xs a p).getD a 0 = xs.getD p 0 := by
    rw [sw_get (by omega) (by omega)]
    by_cases e : a = p
    · rw [if_pos e, e]
    · rw [if_neg e, if_pos rfl]
  generalize xs.getD p 0 = pv at hpv hK
  refine lfp_ind (m := b - (a + 1)) (Inv := fun mm t g2 _ => ∃ (i j : Nat) (zs : List Int), b - i ≤ mm ∧ Sws a b xs zs ∧ Pt a b i j zs ∧ zs.getD a 0 = pv ∧ Fr l g g2 ∧ g2 l = some (Dt bk zs) ∧ t 0 = sV l m cc ∧ t 1 = .int .i64 (a : Nat) ∧ t 9 = .int .i64 (i : Nat) ∧ t 10 = .int .i64 (j : Nat)) ?_ ⟨a + 1, b - 1, _, Nat.le_refl _, hS, Pt.first (by omega), hpv, f2, hg2, rfl, rfl, rfl, rfl⟩
  clear hS f2 hg2 hpv
  rintro I mm t g2 n2 ih ⟨i0, j0, zs, hmm, hS, hPt0, hpv, f2, hg2, t0, t1, t10, t11⟩
  have hzl := hS.len
  have hi0 : i0 ≤ i0 := Nat.le_refl _
  have stopD : ∀ (i j : Nat) (t : Env) (n2 : Nat), Pt a b i j zs → i0 ≤ i → (i ≤ j → zs.getD a 0 < zs.getD i 0) → (i ≤ j → zs.getD j 0 ≤ zs.getD a 0) → t 0 = sV l m cc → t 1 = .int .i64 (a : Nat) → t 9 = .int .i64 (i : Nat) → t 10 = .int .i64 (j : Nat) → slices_partitionEqualOrdered_uint64_j8 AC K I t g2 n2 := by
    intro i j t n2 hPt hge hup hdn t0 t1 t10 t11
    have q1 := hPt.i1
    have q2 := hPt.ij
    have q3 := hPt.jb
    simp only [slices_partitionEqualOrdered_uint64_j8, t0, t10, t11, kBin_gtr]
    refine kSplit_d (fun hij => ?_) (fun hij => ?_)
    · refine aRet_of (Sub.refl _) (hK i zs _ _ ⟨hS, by omega, by omega, fun k k1 k2 => ?_, fun k k1 k2 => ?_⟩ f2 hg2)
      · rw [← hpv]
        by_cases e : k = a
        · subst e; exact Int.le_refl _
        · exact hPt.lo k (by omega) k2
      · rw [← hpv]; exact hPt.hi k (by omega) k2
    · have h1 := hup (by omega)
      have h2 := hdn (by omega)
      have hne : i ≠ j := fun e => by subst e; omega
      refine swpD hg2 hr (by omega) (by omega) (by omega) ?_
      have j9 : ∀ t' : Env, t' 0 = sV l m cc → t' 1 = .int .i64 (a : Nat) → t' 9 = .int .i64 (i : Nat) → t' 10 = .int .i64 (j : Nat) → slices_partitionEqualOrdered_uint64_j9 AC K I t' (upd g2 l (some (Dt bk (sw zs i j)))) n2 := by
        intro t' q0 q1' q10 q11
        simp only [slices_partitionEqualOrdered_uint64_j9, q10, q11, kBin_add, kBin_sub]
        rw [i64 (k := i + 1) (by omega) (by omega), i64 (k := j - 1) (by omega) (by omega)]
        refine ih (b - (i + 1)) _ _ _ (by omega) ⟨i + 1, j - 1, sw zs i j, Nat.le_refl _, .step hS (by omega) (by omega) (by omega) (by omega) (by omega), hPt.swap (by omega) (by omega) (by omega) (by omega), ?_, f2.trans (Fr.upd _ _ _), upd_same _ _ _, q0, q1', rfl, rfl⟩
        rw [sw_get (by omega) (by omega), if_neg (by omega), if_neg (by omega)]; exact hpv
      exact j9 _ t0 t1 t10 t11
  have dn : ∀ (i j : Nat) (t : Env) (n2 : Nat), Pt a b i j zs → i0 ≤ i → (i ≤ j → zs.getD a 0 < zs.getD i 0) → t 0 = sV l m cc → t 1 = .int .i64 (a : Nat) → t 9 = .int .i64 (i : Nat) → t 10 = .int .i64 (j : Nat) → lfp (slices_partitionEqualOrdered_uint64_l6 AC K I) t g2 n2 := by
    intro i j t n2 hPt hge hup t0 t1 t10 t11
    refine lfp_ind (m := j) (Inv := fun mm t g3 _ => ∃ j : Nat, j ≤ mm ∧ g3 = g2 ∧ Pt a b i j zs ∧ (i ≤ j → zs.getD a 0 < zs.getD i 0) ∧ t 0 = sV l m cc ∧ t 1 = .int .i64 (a : Nat) ∧ t 9 = .int .i64 (i : Nat) ∧ t 10 = .int .i64 (j : Nat)) ?_ ⟨j, Nat.le_refl _, rfl, hPt, hup, t0, t1, t10, t11⟩
    clear hPt hup t0 t1 t10 t11
    rintro I5 mm t g3 n3 ih ⟨j, hmm, rfl, hPt, hup, t0, t1, t10, t11⟩
    have q1 := hPt.i1
    have q2 := hPt.ij
    have q3 := hPt.jb
    simp only [slices_partitionEqualOrdered_uint64_l6, t0, t1, t10, t11, kBin_leq]
    refine kSplit_d (fun hij => ?_) (fun hij => ?_)
    · have hij : i ≤ j := by omega
      refine ixD (by omega) (ldD hg2 (by omega) (ixD (by omega) (ldD hg2 (by omega) (Less_spec fun n' => ?_))))
      skip
      by_cases hc : zs.getD a 0 < zs.getD j 0
      · have jj : ∀ t' : Env, t' 59 = .bool true → t' 0 = sV l m cc → t' 1 = .int .i64 (a : Nat) → t' 9 = .int .i64 (i : Nat) → t' 10 = .int .i64 (j : Nat) → slices_partitionEqualOrdered_uint64_j7 AC K I I5 t' g3 n' := by
          intro t' qs q0 q1 q10 q11
          simp only [slices_partitionEqualOrdered_uint64_j7, qs, q11, kBin_sub]
          rw [i64 (k := j - 1) (by omega) (by omega)]
          exact kSplit_t rfl (ih (mm - 1) _ _ _ (by omega) ⟨j - 1, by omega, rfl, hPt.down hij (by omega), fun h => hup (by omega), q0, q1, q10, rfl⟩)
        exact jj _ (by show Value.bool (decide _) = _; rw [decide_eq_true hc]) t0 t1 t10 t11
      · have jj : ∀ t' : Env, t' 59 = .bool false → t' 0 = sV l m cc → t' 1 = .int .i64 (a : Nat) → t' 9 = .int .i64 (i : Nat) → t' 10 = .int .i64 (j : Nat) → slices_partitionEqualOrdered_uint64_j7 AC K I I5 t' g3 n' := by
          intro t' qs q0 q1 q10 q11
          simp only [slices_partitionEqualOrdered_uint64_j7, qs, q11, kBin_sub]
          exact kSplit_f rfl (stopD i j _ _ hPt hge hup (fun _ => by omega) q0 q1 q10 q11)
        exact jj _ (by show Value.bool (decide _) = _; rw [decide_eq_false hc]) t0 t1 t10 t11
    · have jj : ∀ t' : Env, t' 59 = .bool false → t' 0 = sV l m cc → t' 1 = .int .i64 (a : Nat) → t' 9 = .int .i64 (i : Nat) → t' 10 = .int .i64 (j : Nat) → slices_partitionEqualOrdered_uint64_j7 AC K I I5 t' g3 n3 := by
        intro t' qs q0 q1 q10 q11
        simp only [slices_partitionEqualOrdered_uint64_j7, qs]
        exact kSplit_f rfl (stopD i j _ _ hPt hge hup (fun h => by omega) q0 q1 q10 q11)
      exact jj _ rfl t0 t1 t10 t11
  have upS : ∀ (i j : Nat) (t : Env) (n2 : Nat), Pt a b i j zs → i0 ≤ i → t 0 = sV l m cc → t 1 = .int .i64 (a : Nat) → t 9 = .int .i64 (i : Nat) → t 10 = .int .i64 (j : Nat) → lfp (slices_partitionEqualOrdered_uint64_l3 AC K I) t g2 n2 := by
    intro i j t n2 hPt hge t0 t1 t10 t11
    refine lfp_ind (m := b - i) (Inv := fun mm t g3 _ => ∃ i : Nat, b - i ≤ mm ∧ g3 = g2 ∧ Pt a b i j zs ∧ i0 ≤ i ∧ t 0 = sV l m cc ∧ t 1 = .int .i64 (a : Nat) ∧ t 9 = .int .i64 (i : Nat) ∧ t 10 = .int .i64 (j : Nat)) ?_ ⟨i, Nat.le_refl _, rfl, hPt, hge, t0, t1, t10, t11⟩
    clear hPt hge t0 t1 t10 t11
    rintro I5 mm t g3 n3 ih ⟨i, hmm, rfl, hPt, hge, t0, t1, t10, t11⟩
    have q1 := hPt.i1
    have q2 := hPt.ij
    have q3 := hPt.jb
    have go : ∀ (t' : Env) (n' : Nat), (i ≤ j → zs.getD a 0 < zs.getD i 0) → t' 0 = sV l m cc → t' 1 = .int .i64 (a : Nat) → t' 9 = .int .i64 (i : Nat) → t' 10 = .int .i64 (j : Nat) → slices_partitionEqualOrdered_uint64_j5 AC K I t' g3 n' := by
      intro t' n' h q0 q1 q10 q11
      simp only [slices_partitionEqualOrdered_uint64_j5]
      exact dn i j t' n' hPt hge h q0 q1 q10 q11
    simp only [slices_partitionEqualOrdered_uint64_l3, t0, t1, t10, t11, kBin_leq]
    refine kSplit_d (fun hij => ?_) (fun hij => ?_)
    · have hij : i ≤ j := by omega
      refine ixD (by omega) (ldD hg2 (by omega) (ixD (by omega) (ldD hg2 (by omega) (Less_spec fun n' => ?_))))
      rw [kUn_not]
      by_cases hc : zs.getD a 0 < zs.getD i 0
      · have jj : ∀ t' : Env, t' 43 = .bool false → t' 0 = sV l m cc → t' 1 = .int .i64 (a : Nat) → t' 9 = .int .i64 (i : Nat) → t' 10 = .int .i64 (j : Nat) → slices_partitionEqualOrdered_uint64_j4 AC K I I5 t' g3 n' := by
          intro t' qs q0 q1 q10 q11
          simp only [slices_partitionEqualOrdered_uint64_j4, qs, q10, kBin_add]
          exact kSplit_f rfl (go _ _ (fun _ => hc) q0 q1 q10 q11)
        exact jj _ (by show Value.bool (!decide _) = _; rw [decide_eq_true hc]; rfl) t0 t1 t10 t11
      · have jj : ∀ t' : Env, t' 43 = .bool true → t' 0 = sV l m cc → t' 1 = .int .i64 (a : Nat) → t' 9 = .int .i64 (i : Nat) → t' 10 = .int .i64 (j : Nat) → slices_partitionEqualOrdered_uint64_j4 AC K I I5 t' g3 n' := by
          intro t' qs q0 q1 q10 q11
          simp only [slices_partitionEqualOrdered_uint64_j4, qs, q10, kBin_add]
          rw [i64 (k := i + 1) (by omega) (by omega)]
          exact kSplit_t rfl (ih (mm - 1) _ _ _ (by omega) ⟨i + 1, by omega, rfl, hPt.up hij (by omega), by omega, q0, q1, rfl, q11⟩)
        exact jj _ (by show Value.bool (!decide _) = _; rw [decide_eq_false hc]; rfl) t0 t1 t10 t11
    · have jj : ∀ t' : Env, t' 43 = .bool false → t' 0 = sV l m cc → t' 1 = .int .i64 (a : Nat) → t' 9 = .int .i64 (i : Nat) → t' 10 = .int .i64 (j : Nat) → slices_partitionEqualOrdered_uint64_j4 AC K I I5 t' g3 n3 := by
        intro t' qs q0 q1 q10 q11
        simp only [slices_partitionEqualOrdered_uint64_j4, qs]
        exact kSplit_f rfl (go _ _ (fun h => by omega) q0 q1 q10 q11)
      exact jj _ rfl t0 t1 t10 t11
  simp only [slices_partitionEqualOrdered_uint64_l2]
  exact upS i0 j0 t n2 hPt0 hi0 t0 t1 t10 t11
end Go.Proofs.YtecojalpbppfeaaGreat.Gen

namespace Go.Proofs.YtecojalpbppfeaaGreat.Gen
open Go Go.Proofs.YtecojalpbppfeaaGreat.Abs Go.RowKit
variable {g : G} {n : Nat} {a b m l cc : Nat} {bk : BK} {xs ys zs : List Int}
theorem kBin_xorI {k : IntKind} {x y : Int} {K : Value → Prop} : kBin .int .xor (.int k x) (.int k y) K = K (.int k (k.wrap ((BitVec.ofInt k.bits x ^^^ BitVec.ofInt k.bits y).toNat : Nat))) := by simp [kBin, kIntBin]
theorem kBin_shlI {k k' : IntKind} {x y : Int} {K : Value → Prop} : kBin .int .shl (.int k x) (.int k' y) K = (0 ≤ y ∧ K (.int k (k.wrap (x * 2 ^ (min y.toNat k.bits))))) := by simp [kBin, kIntBin]
theorem kBin_shrI {k k' : IntKind} {x y : Int} {K : Value → Prop} : kBin .int .shr (.int k x) (.int k' y) K = (0 ≤ y ∧ K (.int k (x.fdiv (2 ^ (min y.toNat k.bits))))) := by simp [kBin, kIntBin]
theorem xor_spec {lr : Nat} {x : Int} (hr : g lr = some (.cells [.int .u64 x] .exact)) {K : Cont} (hK : ∀ y g' n', Fr lr g g' → g' lr = some (.cells [.int .u64 y] .exact) → K (.int .u64 y) g' n') : AC slices_xorshift_Next_id [ptr lr 0] g n K := by
  refine ACalls.fold X0_mono ?_
  rw [← slices_xorshift_Next_eq]
  simp only [slices_xorshift_Next, kNil_p, kPtr_p]
  refine kLd_of hr rfl (kLd_of hr rfl ?_)
  rw [kBin_shlI]
  refine ⟨by decide, ?_⟩
  rw [kBin_xorI]
  refine kSt_of hr rfl (by simp) rfl ?_
  have j3 : ∀ (t : Env) (y : Int) (g1 : G) (n' : Nat), t 0 = ptr lr 0 → Fr lr g g1 → g1 lr = some (.cells [.int .u64 y] .exact) → slices_xorshift_Next_j3 AC K t g1 n' := by
    intro t y g1 n' t0 f1 h1
    simp only [slices_xorshift_Next_j3, t0, kNil_p, kPtr_p]
    exact kLd_of h1 rfl (aRet_of (Sub.refl _) (hK _ _ _ f1 h1))
  have j2 : ∀ (t : Env) (y : Int) (g1 : G) (n' : Nat), t 0 = ptr lr 0 → Fr lr g g1 → g1 lr = some (.cells [.int .u64 y] .exact) → slices_xorshift_Next_j2 AC K t g1 n' := by
    intro t y g1 n' t0 f1 h1
    simp only [slices_xorshift_Next_j2, t0, kNil_p, kPtr_p]
    refine kLd_of h1 rfl (kLd_of h1 rfl ?_)
    rw [kBin_shlI]
    refine ⟨by decide, ?_⟩
    rw [kBin_xorI]
    refine kSt_of h1 rfl (by simp) rfl ?_
    exact j3 _ _ _ _ t0 (f1.trans (Fr.upd _ _ _)) (upd_same _ _ _)
  have j1 : ∀ (t : Env) (y : Int) (g1 : G) (n' : Nat), t 0 = ptr lr 0 → Fr lr g g1 → g1 lr = some (.cells [.int .u64 y] .exact) → slices_xorshift_Next_j1 AC K t g1 n' := by
    intro t y g1 n' t0 f1 h1
    simp only [slices_xorshift_Next_j1, t0, kNil_p, kPtr_p]
    refine kLd_of h1 rfl (kLd_of h1 rfl ?_)
    rw [kBin_shrI]
    refine ⟨by decide, ?_⟩
    rw [kBin_xorI]
    refine kSt_of h1 rfl (by simp) rfl ?_
    exact j2 _ _ _ _ t0 (f1.trans (Fr.upd _ _ _)) (upd_same _ _ _)
  exact j1 _ _ _ _ rfl (Fr.upd _ _ _) (upd_same _ _ _)
theorem kBin_andI {k : IntKind} {x y : Int} {K : Value → Prop} : kBin .int .and (.int k x) (.int k y) K = K (.int k (k.wrap ((BitVec.ofInt k.bits x &&& BitVec.ofInt k.bits y).toNat : Nat))) := by simp [kBin, kIntBin]
theorem andLe (x : Int) (k : Nat) (hk : k < 1000) : ∃ r : Nat, r ≤ k ∧ IntKind.u64.wrap (((BitVec.ofInt IntKind.u64.bits x &&& BitVec.ofInt IntKind.u64.bits (k : Int)).toNat : Nat) : Int) = (r : Int) := by
  have h : (BitVec.ofInt IntKind.u64.bits x &&& BitVec.ofInt IntKind.u64.bits (k : Int)).toNat ≤ k := by
    rw [BitVec.toNat_and]
    refine Nat.le_trans Nat.and_le_right ?_
    rw [BitVec.toNat_ofInt]
    have e : ((k : Int) % ((2 ^ IntKind.u64.bits : Nat) : Int)) = (k : Int) := Int.emod_eq_of_lt (by omega) (by show (k : Int) < ((2 ^ 64 : Nat) : Int); omega)
    rw [e]; omega
  generalize (BitVec.ofInt IntKind.u64.bits x &&& BitVec.ofInt IntKind.u64.bits (k : Int)).toNat = r at h
  refine ⟨r, h, ?_⟩
  show ((r : Int) % ((2 ^ 64 : Nat) : Int)) = r
  exact Int.emod_eq_of_lt (by omega) (by omega)
theorem pow_spec {L : Nat} (h1 : 13 ≤ L) (h2 : L ≤ 16) {K : Cont} (hK : ∀ (M n' : Nat), L ≤ M → M ≤ 2 * L → K (.int .u64 (M : Nat)) g n') : AC slices_nextPowerOfTwo_id [.int .i64 (L : Nat)] g n K := by
  obtain rfl | rfl | rfl | rfl : L = 13 ∨ L = 14 ∨ L = 15 ∨ L = 16 := by omega
  · exact AC_ev (.int .u64 16) 100 20 rfl rfl (by kernel_rfl) (fun n' => hK 16 n' (by omega) (by omega))
  · exact AC_ev (.int .u64 16) 100 20 rfl rfl (by kernel_rfl) (fun n' => hK 16 n' (by omega) (by omega))
  · exact AC_ev (.int .u64 16) 100 20 rfl rfl (by kernel_rfl) (fun n' => hK 16 n' (by omega) (by omega))
  · exact AC_ev (.int .u64 32) 100 20 rfl rfl (by kernel_rfl) (fun n' => hK 32 n' (by omega) (by omega))
theorem wrapU {x : Int} {k : Nat} (h : x = (k : Int)) (hk : k < 1000000) : IntKind.u64.wrap x = (k : Int) := by
  subst h
  show ((k : Int) % ((2 ^ 64 : Nat) : Int)) = k
  exact Int.emod_eq_of_lt (by omega) (by omega)
set_option maxHeartbeats 1000000 in
theorem break_spec (hg : g l = some (Dt bk xs)) (hr : bk.rw = true) (hm : xs.length = m) (h13 : a + 13 ≤ b) (h16 : b ≤ a + 16) (hb : b ≤ m) (hsz : m < 100000) {K : Cont}
    (hK : ∀ ys g' n', Sws a b xs ys → Fr l g g' → g' l = some (Dt bk ys) → K (.tuple #[]) g' n') :
    AC slices_breakPatternsOrdered_uint64_id [sV l m cc, .int .i64 (a : Nat), .int .i64 (b : Nat)] g n K := by
  refine ACalls.fold X0_mono ?_
  rw [← slices_breakPatternsOrdered_uint64_eq]
  simp only [slices_breakPatternsOrdered_uint64, kBin_sub]
  obtain ⟨L, hL⟩ : ∃ L, L = b - a := ⟨_, rfl⟩
  rw [i64 (x := (b : Int) - a) (k := L) (by omega) (by omega)]
  rw [kBin_geq]
  refine kSplit_t (by simp; omega) ?_
  rw [kConv_i, wrapU rfl (by omega)]
  intro hn
  have s1 := (Sub.refl g).new hn (some (.cells [.int .u64 0] .exact))
  have hne : n ≠ l := fun e => by rw [e, hg] at hn; cases hn
  refine kSt_of (upd_same _ _ _) rfl (by simp) rfl ?_
  rw [upd_upd]
  have f1 : Fr l g (upd g n (some (.cells ([Value.int .u64 0].set 0 (.int .u64 (L : Nat))) .exact))) := fun x b' h1 h2 => by
    rw [upd_ne _ _ (fun e => by subst e; rw [hn] at h2; cases h2)]; exact h2
  have hg1 : upd g n (some (.cells ([Value.int .u64 0].set 0 (.int .u64 (L : Nat))) .exact)) l = some (Dt bk xs) := by rw [upd_ne _ _ (fun e => hne e.symm)]; exact hg
  have hr1 : upd g n (some (.cells ([Value.int .u64 0].set 0 (.int .u64 (L : Nat))) .exact)) n = some (.cells [.int .u64 (L : Nat)] .exact) := upd_same _ _ _
  generalize upd g n (some (.cells ([Value.int .u64 0].set 0 (.int .u64 (L : Nat))) .exact)) = g1 at f1 hg1 hr1
  refine pow_spec (by omega) (by omega) (fun M n2 hM1 hM2 => ?_)
  have q4 := tdivN L 4 (by omega) (by omega)
  have h4 : L / 4 * 4 ≤ L := Nat.div_mul_le_self _ _
  have h43 : 3 ≤ L / 4 := by omega
  generalize L / 4 = d at q4 h4 h43
  rw [show (4 : Int) = ((4 : Nat) : Int) from rfl, kBin_quo, q4]
  refine ⟨by simp, ?_⟩
  rw [kBin_mul, i64 (k := d * 2) (by omega) (by omega), kBin_add, i64 (k := a + d * 2) (by omega) (by omega), kBin_sub, i64 (k := a + d * 2 - 1) (by omega) (by omega)]
  refine lfp_ind (m := a + d * 2 + 2) (Inv := fun mm t g2 _ => ∃ (i : Nat) (x : Int) (zs : List Int), a + d * 2 + 2 - i ≤ mm ∧ a ≤ i ∧ t 0 = sV l m cc ∧ t 1 = .int .i64 (a : Nat) ∧ t 6 = .int .i64 (L : Nat) ∧ t 7 = ptr n 0 ∧ t 8 = .int .u64 (M : Nat) ∧ t 9 = .int .i64 (i : Nat) ∧ Sws a b xs zs ∧ Fr l g g2 ∧ g2 l = some (Dt bk zs) ∧ g2 n = some (.cells [.int .u64 x] .exact)) ?_
    ⟨a + d * 2 - 1, _, xs, by omega, by omega, rfl, rfl, rfl, rfl, rfl, rfl, .refl _, f1, hg1, hr1⟩
  rintro I mm t g2 n3 ih ⟨i, x, zs, hmm, hi, t0, t1, t6, t7, t8, t9, hS, f2, hg2, hr2⟩
  have hzl := hS.len
  simp only [slices_breakPatternsOrdered_uint64_l1, t1, t6, t7, t8, t9]
  rw [show (4 : Int) = ((4 : Nat) : Int) from rfl, kBin_quo, q4]
  refine ⟨by simp, ?_⟩
  rw [kBin_mul, i64 (k := d * 2) (by omega) (by omega), kBin_add, i64 (k := a + d * 2) (by omega) (by omega), kBin_add, i64 (k := a + d * 2 + 1) (by omega) (by omega), kBin_leq]
  refine kSplit_d (fun hle => ?_) (fun hle => aRet_of (Sub.refl _) (hK zs _ _ hS f2 hg2))
  refine xor_spec hr2 (fun y g3 n4 f3 hr3 => ?_)
  have hg3 := f3 l _ (fun e => hne e.symm) hg2
  have f03 : Fr l g g3 := fun z b' h1 h2 => f3 z _ (fun e => by subst e; rw [hn] at h2; cases h2) (f2 z b' h1 h2)
  rw [kBin_sub, wrapU (k := M - 1) (by omega) (by omega)]
  obtain ⟨o, ho, eo⟩ := andLe y (M - 1) (by omega)
  rw [kBin_andI, eo, kConv_i, i64 rfl (by omega), kBin_geq]
  have j2 : ∀ (t' : Env) (o' : Nat), o' < L → t' 0 = sV l m cc → t' 1 = .int .i64 (a : Nat) → t' 6 = .int .i64 (L : Nat) → t' 7 = ptr n 0 → t' 8 = .int .u64 (M : Nat) → t' 9 = .int .i64 (i : Nat) → t' 10 = .int .i64 (o' : Nat) → slices_breakPatternsOrdered_uint64_j2 AC K I t' g3 n4 := by
    intro t' o' ho' q0 q1 q6 q7 q8 q9 q10
    simp only [slices_breakPatternsOrdered_uint64_j2, slices_breakPatternsOrdered_uint64_j3, slices_breakPatternsOrdered_uint64_j4, q0, q1, q9, q10, kBin_add]
    rw [i64 (k := a + o') (by omega) (by omega)]
    refine swpD hg3 hr (by omega) (by omega) (by omega) ?_
    show kBin .int .add (t' 9) _ _
    rw [q9, kBin_add, i64 (k := i + 1) (by omega) (by omega)]
    refine ih (mm - 1) _ _ _ (by omega) ⟨i + 1, y, sw zs i (a + o'), by omega, by omega, q0, q1, q6, q7, q8, rfl, .step hS (by omega) (by omega) (by omega) (by omega) (by omega), f03.trans (Fr.upd _ _ _), upd_same _ _ _, ?_⟩
    rw [upd_ne _ _ hne]; exact hr3
  refine kSplit_d (fun hge => ?_) (fun hge => j2 _ o (by omega) t0 t1 t6 t7 t8 t9 rfl)
  rw [kBin_sub, i64 (k := o - L) (by omega) (by omega)]
  exact j2 _ (o - L) (by omega) t0 t1 t6 t7 t8 t9 rfl
/-- what is left to sort, and what that makes of all -/
structure PI (a b a' b' : Nat) (xs zs : List Int) : Prop where
  fin : ∀ ys, Sws a' b' zs ys → SrtW a' b' ys → Sws a b xs ys ∧ SrtW a b ys
  lo : ∀ k q, k < a' → a' ≤ q → q < b' → zs.getD k 0 ≤ zs.getD q 0
  len : zs.length = xs.length
theorem PI.sws {a' b' : Nat} (h : PI a b a' b' xs zs) (hS : Sws a' b' zs ys) : PI a b a' b' xs ys := by
  refine ⟨fun ws h1 h2 => h.fin ws (hS.trans h1) h2, fun k q h1 h2 h3 => ?_, by rw [hS.len, h.len]⟩
  rw [hS.out (.inl h1)]
  exact hS.all (P := fun x => zs.getD k 0 ≤ x) (fun q h2 h3 => h.lo k q h1 h2 h3) q h2 h3
theorem PI.right {a' b' mid : Nat} {w : List Int} (h : PI a b a' b' xs zs) (hp : Par a' b' mid zs ys) (hb : b' ≤ zs.length) (hS : Sws a' mid ys w) (hs : SrtW a' mid w) : PI a b (mid + 1) b' xs w := by
  have hyl := hp.sws.len
  have ham := hp.am
  have hmb := hp.mb
  have hl : ∀ k, a' ≤ k → k < mid → w.getD k 0 ≤ ys.getD mid 0 := hS.all (P := fun x => x ≤ ys.getD mid 0) hp.lo
  have hm : w.getD mid 0 = ys.getD mid 0 := hS.out (.inr (Nat.le_refl _))
  have hh : ∀ k, mid < k → k < b' → ys.getD mid 0 ≤ w.getD k 0 := fun k h1 h2 => by rw [hS.out (.inr (by omega))]; exact hp.hi k h1 h2
  have hSw : Sws a' b' zs w := hp.sws.trans (hS.wide (Nat.le_refl _) (by omega) (by omega))
  refine ⟨fun vs h1 h2 => ?_, fun k q h1 h2 h3 => ?_, by rw [hSw.len, h.len]⟩
  · refine h.fin vs (hSw.trans (h1.wide (by omega) (Nat.le_refl _) (by rw [hSw.len]; omega))) (fun p q p1 p2 p3 => ?_)
    have hh2 : ∀ k, mid + 1 ≤ k → k < b' → ys.getD mid 0 ≤ vs.getD k 0 := h1.all (P := fun x => ys.getD mid 0 ≤ x) (fun k k1 k2 => hh k (by omega) k2)
    have ho : ∀ k, k ≤ mid → vs.getD k 0 = w.getD k 0 := fun k hk => h1.out (.inl (by omega))
    by_cases e1 : mid + 1 ≤ p
    · exact h2 p q e1 p2 p3
    · rw [ho p (by omega)]
      have hpm : w.getD p 0 ≤ ys.getD mid 0 := by
        by_cases e : p = mid
        · rw [e, hm]; exact Int.le_refl _
        · exact hl p p1 (by omega)
      by_cases e2 : mid + 1 ≤ q
      · have := hh2 q e2 p3; omega
      · rw [ho q (by omega)]
        by_cases e : q = mid
        · rw [e, hm]; exact hpm
        · exact hs p q p1 p2 (by omega)
  · have hx := (h.sws hSw).lo
    by_cases e1 : k < a'
    · exact hx k q e1 (by omega) h3
    · have := hh q (by omega) h3
      have : w.getD k 0 ≤ ys.getD mid 0 := by
        by_cases e : k = mid
        · rw [e, hm]; exact Int.le_refl _
        · exact hl k (by omega) (by omega)
      omega
theorem PI.left {a' b' mid : Nat} {w : List Int} (h : PI a b a' b' xs zs) (hp : Par a' b' mid zs ys) (hb : b' ≤ zs.length) (hS : Sws (mid + 1) b' ys w) (hs : SrtW (mid + 1) b' w) : PI a b a' mid xs w := by
  have hyl := hp.sws.len
  have ham := hp.am
  have hmb := hp.mb
  have hl : ∀ k, a' ≤ k → k < mid → w.getD k 0 ≤ ys.getD mid 0 := fun k k1 k2 => by rw [hS.out (.inl (by omega))]; exact hp.lo k k1 k2
  have hm : w.getD mid 0 = ys.getD mid 0 := hS.out (.inl (by omega))
  have hh : ∀ k, mid + 1 ≤ k → k < b' → ys.getD mid 0 ≤ w.getD k 0 := hS.all (P := fun x => ys.getD mid 0 ≤ x) (fun k k1 k2 => hp.hi k (by omega) k2)
  have hSw : Sws a' b' zs w := hp.sws.trans (hS.wide (by omega) (Nat.le_refl _) (by omega))
  refine ⟨fun vs h1 h2 => ?_, fun k q h1 h2 h3 => (h.sws hSw).lo k q h1 h2 (by omega), by rw [hSw.len, h.len]⟩
  refine h.fin vs (hSw.trans (h1.wide (Nat.le_refl _) (by omega) (by rw [hSw.len]; omega))) (fun p q p1 p2 p3 => ?_)
  have hl2 : ∀ k, a' ≤ k → k < mid → vs.getD k 0 ≤ ys.getD mid 0 := h1.all (P := fun x => x ≤ ys.getD mid 0) hl
  have ho : ∀ k, mid ≤ k → vs.getD k 0 = w.getD k 0 := fun k hk => h1.out (.inr hk)
  by_cases e1 : q < mid
  · exact h2 p q p1 p2 e1
  · rw [ho q (by omega)]
    have hqm : ys.getD mid 0 ≤ w.getD q 0 := by
      by_cases e : q = mid
      · rw [e, hm]; exact Int.le_refl _
      · exact hh q (by omega) p3
    by_cases e2 : p < mid
    · have := hl2 p p1 e2; omega
    · rw [ho p (by omega)]
      by_cases e : p = mid
      · rw [e, hm]; exact hqm
      · exact hs p q (by omega) p2 p3
theorem PI.eqs {a' b' mid : Nat} {v : Int} (h : PI a b a' b' xs zs) (hp : ParE a' b' mid v zs ys) (hb : b' ≤ zs.length) (hv : ∀ q, a' ≤ q → q < b' → v ≤ zs.getD q 0) : PI a b mid b' xs ys := by
  have ham := hp.am
  have hmb := hp.mb
  have hyl := hp.sws.len
  have hall : ∀ q, a' ≤ q → q < b' → v ≤ ys.getD q 0 := hp.sws.all (P := fun x => v ≤ x) hv
  refine ⟨fun vs h1 h2 => ?_, fun k q h1 h2 h3 => ?_, by rw [hyl, h.len]⟩
  · refine h.fin vs (hp.sws.trans (h1.wide (by omega) (Nat.le_refl _) (by omega))) (fun p q p1 p2 p3 => ?_)
    have hh2 : ∀ k, mid ≤ k → k < b' → v ≤ vs.getD k 0 := h1.all (P := fun x => v ≤ x) hp.hi
    have ho : ∀ k, k < mid → vs.getD k 0 = ys.getD k 0 := fun k hk => h1.out (.inl hk)
    by_cases e1 : mid ≤ p
    · exact h2 p q e1 p2 p3
    · rw [ho p (by omega)]
      have := hp.lo p p1 (by omega)
      by_cases e2 : mid ≤ q
      · have := hh2 q e2 p3; omega
      · rw [ho q (by omega)]
        have := hall q (by omega) p3; omega
  · by_cases e1 : k < a'
    · exact (h.sws hp.sws).lo k q e1 (by omega) h3
    · have := hp.lo k (by omega) h1
      have := hp.hi q h2 h3
      omega
end Go.Proofs.YtecojalpbppfeaaGreat.Gen

namespace Go.Proofs.YtecojalpbppfeaaGreat.Abs
open Go Go.Proofs.YtecojalpbppfeaaGreat.Abs Go.RowKit
variable {g : G} {n : Nat}
/-! ## objects with slices of their own -/
def none0 : G := fun _ => none
theorem none0_sub (g : G) : Sub none0 g := fun _ => .inl rfl
def blks (v : Value) : List Nat := (blkOf v).toList
theorem mem_blks {v : Value} {l : Nat} : l ∈ blks v ↔ blkOf v = some l := by simp [blks]
def Upd (fp fp' : List Nat) (g g' : G) : Prop := (∀ l b, g l = some b → l ∉ fp → g' l = some b) ∧ (∀ l ∈ fp', l ∈ fp ∨ g l = none)
theorem Upd.refl (fp : List Nat) (g : G) : Upd fp fp g g := ⟨fun _ _ h _ => h, fun _ h => .inl h⟩
theorem Upd.sub {fp : List Nat} {g g' : G} (h : Sub g g') : Upd fp fp g g' := ⟨fun _ _ hl _ => h.live hl, fun _ h => .inl h⟩
theorem Upd.trans {a b c : List Nat} {g g1 g2 : G} (h : Upd a b g g1) (k : Upd b c g1 g2) : Upd a c g g2 := by
  refine ⟨fun l x hl hn => k.1 l x (h.1 l x hl hn) (fun hb => ?_), fun l hl => ?_⟩
  · rcases h.2 l hb with h1 | h1
    · exact hn h1
    · rw [h1] at hl; cases hl
  · rcases k.2 l hl with h1 | h1
    · exact h.2 l h1
    · by_cases hx : l ∈ a
      · exact .inl hx
      · refine .inr ?_
        cases hg : g l with
        | none => rfl
        | some x => rw [h.1 l x hg hx] at h1; cases h1
theorem own_app {α : Type} {enc : α → List Value} {z bytes : Nat} {v x : Value} {xs ys : List α} {K : Cont} (ho : OwnS enc z none0 g v xs) (hx : Sl enc z g x ys) (hc : ∀ y, ∀ v ∈ enc y, isCell v = true) (hb : bytes ≤ 1048576)
    (h1 : (xs.length + ys.length) * bytes ≤ 1099511627776) (h2 : xs.length + ys.length < 1099511627776) (h0 : 0 < ys.length)
    (hK : ∀ v' g' n', OwnS enc z none0 g' v' (xs ++ ys) → (∀ l b, g l = some b → l ∉ blks v → g' l = some b) → (∀ l ∈ blks v', g l = none) → K v' g' n') : kAppend v x z bytes g n K :=
  ho.append (none0_sub g) hx hc hb h1 h2 (fun v' g' n' _ h4 h5 h6 => hK v' g' n' h4 (fun l b hl hn => h5 l b hl (fun e => hn (mem_blks.2 e))) (fun l hl => h6 h0 l (mem_blks.1 hl)))
theorem OwnS.keepB {α : Type} {enc : α → List Value} {z : Nat} {g g' : G} {v : Value} {xs : List α} (h : OwnS enc z none0 g v xs) (hk : ∀ l b, g l = some b → l ∈ blks v → g' l = some b) : OwnS enc z none0 g' v xs :=
  h.keep fun l b h1 h2 => hk l b h1 (mem_blks.2 h2)
/-- the block of one's own slice is there -/
theorem OwnS.there {α : Type} {enc : α → List Value} {z : Nat} {g g0 : G} {v : Value} {xs : List α} (h : OwnS enc z g0 g v xs) : ∀ l ∈ blks v, xs.length ≠ 0 → ∃ b, g l = some b := by
  intro l hl hn
  rcases h with ⟨h0, _⟩ | ⟨l', c, bk, rfl, hg, _⟩
  · exact absurd h0 hn
  · have := mem_blks.1 hl; simp [blkOf] at this; subst this; exact ⟨_, hg⟩
/-- an object at lb with slices fs of its own -/
def ObjF (lb : Nat) (fs : List Value) : List Nat := lb :: fs.flatMap blks
structure Ob (g : G) (lb : Nat) (fs : List Value) : Prop where
  nd : (ObjF lb fs).Nodup
  live : ∀ l ∈ fs.flatMap blks, ∃ b, g l = some b
theorem blks_nodup (v : Value) : (blks v).Nodup := by simp only [blks]; cases blkOf v <;> simp
theorem Ob.keep {lb : Nat} {fs : List Value} {g' : G} (h : Ob g lb fs) (hk : ∀ l b, g l = some b → l ∈ ObjF lb fs → g' l = some b) : Ob g' lb fs :=
  ⟨h.nd, fun l hl => let ⟨b, hb⟩ := h.live l hl; ⟨b, hk l b hb (List.mem_cons_of_mem _ hl)⟩⟩
theorem Ob.app {lb : Nat} {A B : List Value} {v v' : Value} {g1 : G} {b0 b1 : Blk} (h : Ob g lb (A ++ v :: B)) (hlb : g lb = some b0) (hk : ∀ l b, g l = some b → l ∉ blks v → g1 l = some b) (hf : ∀ l ∈ blks v', g l = none)
    (ht : ∀ l ∈ blks v', ∃ b, g1 l = some b) :
    Ob (upd g1 lb (some b1)) lb (A ++ v' :: B) ∧ (∀ w ∈ A ++ B, ∀ l b, g l = some b → l ∈ blks w → upd g1 lb (some b1) l = some b) ∧ (∀ l b, g1 l = some b → l ∈ blks v' → upd g1 lb (some b1) l = some b) ∧
      Upd (ObjF lb (A ++ v :: B)) (ObjF lb (A ++ v' :: B)) g (upd g1 lb (some b1)) ∧ g1 lb = some b0 := by
  have nd := h.nd
  simp only [ObjF, List.flatMap_append, List.flatMap_cons, List.nodup_cons, List.mem_append, List.nodup_append, not_or] at nd
  obtain ⟨⟨n1, n2, n3⟩, n4, ⟨n5, n6, n7⟩, n8⟩ := nd
  have lv : ∀ l, (l ∈ A.flatMap blks ∨ l ∈ B.flatMap blks) → ∃ b, g l = some b := fun l hl => h.live l (by simp only [List.flatMap_append, List.flatMap_cons, List.mem_append]; rcases hl with h | h; exact .inl h; exact .inr (.inr h))
  have fr : ∀ l ∈ blks v', l ≠ lb ∧ l ∉ A.flatMap blks ∧ l ∉ B.flatMap blks := fun l hl => by
    refine ⟨fun e => ?_, fun e => ?_, fun e => ?_⟩
    · rw [← e, hf l hl] at hlb; cases hlb
    · obtain ⟨b, hb⟩ := lv l (.inl e); rw [hf l hl] at hb; cases hb
    · obtain ⟨b, hb⟩ := lv l (.inr e); rw [hf l hl] at hb; cases hb
  have oth : ∀ l, (l ∈ A.flatMap blks ∨ l ∈ B.flatMap blks) → l ≠ lb ∧ l ∉ blks v := fun l hl => by
    refine ⟨fun e => ?_, fun e => ?_⟩
    · subst e; exact hl.elim n1 n3
    · rcases hl with h | h
      · exact n8 l h l (.inl e) rfl
      · exact n7 l e l h rfl
  have keepO : ∀ l b, g l = some b → (l ∈ A.flatMap blks ∨ l ∈ B.flatMap blks) → upd g1 lb (some b1) l = some b := fun l b h1 h2 => by
    rw [upd_ne _ _ (oth l h2).1]; exact hk l b h1 (oth l h2).2
  refine ⟨⟨?_, ?_⟩, ?_, ?_, ⟨?_, ?_⟩, hk lb b0 hlb n2⟩
  · simp only [ObjF, List.flatMap_append, List.flatMap_cons, List.nodup_cons, List.mem_append, List.nodup_append, not_or]
    refine ⟨⟨n1, fun e => (fr _ e).1 rfl, n3⟩, n4, ⟨blks_nodup v', n6, fun a ha b hb e => (fr a ha).2.2 (e ▸ hb)⟩, fun a ha b hb e => ?_⟩
    rcases hb with hb | hb
    · exact (fr b hb).2.1 (e ▸ ha)
    · exact n8 a ha b (.inr hb) e
  · intro l hl
    simp only [List.flatMap_append, List.flatMap_cons, List.mem_append] at hl
    rcases hl with hl | hl | hl
    · obtain ⟨b, hb⟩ := lv l (.inl hl); exact ⟨b, keepO l b hb (.inl hl)⟩
    · obtain ⟨b, hb⟩ := ht l hl; exact ⟨b, by rw [upd_ne _ _ (fr l hl).1]; exact hb⟩
    · obtain ⟨b, hb⟩ := lv l (.inr hl); exact ⟨b, keepO l b hb (.inr hl)⟩
  · intro w hw l b h1 h2
    refine keepO l b h1 ?_
    rcases List.mem_append.1 hw with hw | hw
    · exact .inl (List.mem_flatMap.2 ⟨w, hw, h2⟩)
    · exact .inr (List.mem_flatMap.2 ⟨w, hw, h2⟩)
  · intro l b h1 h2; rw [upd_ne _ _ (fr l h2).1]; exact h1
  · intro l b hl hn
    simp only [ObjF, List.flatMap_append, List.flatMap_cons, List.mem_cons, List.mem_append, not_or] at hn
    rw [upd_ne _ _ hn.1]; exact hk l b hl hn.2.2.1
  · intro l hl
    simp only [ObjF, List.flatMap_append, List.flatMap_cons, List.mem_cons, List.mem_append] at hl
    rcases hl with rfl | hl | hl | hl
    · exact .inl (by simp [ObjF])
    · exact .inl (by simp [ObjF]; exact .inr (.inl (by simpa using hl)))
    · exact .inr (hf l hl)
    · exact .inl (by simp [ObjF]; exact .inr (.inr (.inr (by simpa using hl))))
/-- a cell of the object that is no slice -/
theorem Ob.cell {lb : Nat} {fs : List Value} {b0 b1 : Blk} (h : Ob g lb fs) (hlb : g lb = some b0) :
    Ob (upd g lb (some b1)) lb fs ∧ (∀ w ∈ fs, ∀ l b, g l = some b → l ∈ blks w → upd g lb (some b1) l = some b) ∧ Upd (ObjF lb fs) (ObjF lb fs) g (upd g lb (some b1)) := by
  have nd := h.nd
  simp only [ObjF, List.nodup_cons] at nd
  have ne : ∀ l ∈ fs.flatMap blks, l ≠ lb := fun l hl e => nd.1 (e ▸ hl)
  refine ⟨⟨h.nd, fun l hl => ?_⟩, fun w hw l b h1 h2 => ?_, ⟨fun l b h1 h2 => ?_, fun l hl => .inl hl⟩⟩
  · obtain ⟨b, hb⟩ := h.live l hl; exact ⟨b, by rw [upd_ne _ _ (ne l hl)]; exact hb⟩
  · rw [upd_ne _ _ (ne l (List.mem_flatMap.2 ⟨w, hw, h2⟩))]; exact h1
  · rw [upd_ne _ _ (fun e => h2 (by simp [ObjF, e]))]; exact h1
/-- a slice of the object was written in place -/
theorem Ob.elem {lb lv : Nat} {A B : List Value} {v : Value} {b1 : Blk} (h : Ob g lb (A ++ v :: B)) (hv : lv ∈ blks v) :
    Ob (upd g lv (some b1)) lb (A ++ v :: B) ∧ (∀ w ∈ A ++ B, ∀ l b, g l = some b → l ∈ blks w → upd g lv (some b1) l = some b) ∧ (∀ b, g lb = some b → upd g lv (some b1) lb = some b) ∧ Upd (ObjF lb (A ++ v :: B)) (ObjF lb (A ++ v :: B)) g (upd g lv (some b1)) := by
  have nd := h.nd
  simp only [ObjF, List.flatMap_append, List.flatMap_cons, List.nodup_cons, List.mem_append, List.nodup_append, not_or] at nd
  obtain ⟨⟨n1, n2, n3⟩, n4, ⟨n5, n6, n7⟩, n8⟩ := nd
  refine ⟨⟨h.nd, fun l hl => ?_⟩, fun w hw l b h1 h2 => ?_, fun b hb => ?_, ⟨fun l b h1 h2 => ?_, fun l hl => .inl hl⟩⟩
  · by_cases e : l = lv
    · subst e; exact ⟨_, upd_same _ _ _⟩
    · obtain ⟨b, hb⟩ := h.live l hl; exact ⟨b, by rw [upd_ne _ _ e]; exact hb⟩
  · rw [upd_ne]; exact h1
    rintro rfl
    rcases List.mem_append.1 hw with hw | hw
    · exact n8 l (List.mem_flatMap.2 ⟨w, hw, h2⟩) l (.inl hv) rfl
    · exact n7 l hv l (List.mem_flatMap.2 ⟨w, hw, h2⟩) rfl
  · rw [upd_ne]; exact hb
    rintro rfl; exact n2 hv
  · rw [upd_ne]; exact h1
    rintro rfl; exact h2 (by simp [ObjF]; exact .inr (.inr (.inl hv)))
theorem flat_setc {α : Type} {enc : α → List Value} {z : Nat} (hz : ∀ x, (enc x).length = z) {k : Nat} (hk : k < z) {w : Value} {y : α} : ∀ (xs : List α) (j : Nat) (x : α), xs[j]? = some x → (enc x).set k w = enc y →
    ((xs.map enc).flatten).set (j * z + k) w = ((xs.set j y).map enc).flatten
  | [], j, x, h, _ => by simp at h
  | a :: xs, 0, x, h, hy => by
    simp at h; subst h
    simp only [List.map_cons, List.flatten_cons, List.set_cons_zero, Nat.zero_mul, Nat.zero_add]
    rw [List.set_append_left _ _ (by rw [hz]; exact hk), hy]
  | a :: xs, j + 1, x, h, hy => by
    have ih := flat_setc hz hk (w := w) (y := y) xs j x (by simpa using h) hy
    simp only [List.map_cons, List.flatten_cons, List.set_cons_succ]
    rw [List.set_append_right _ _ (by rw [hz, Nat.add_mul]; omega), hz, ← ih]
    congr 2
    rw [Nat.add_mul]; omega
def bkOf (z : Nat) : Value → BK
  | .slice _ _ c => if c < LC then .exact else .loose z
  | _ => .exact
/-- a cell of an element of one's own slice is written -/
theorem own_put {α : Type} {enc : α → List Value} {z : Nat} {v : Value} {xs : List α} {K : Value → Nat → Nat → G → Prop} {j : Nat} {x y : α} {kk : IntKind} {w : Value} {c : Nat} (hz : ∀ x, (enc x).length = z) (h : OwnS enc z none0 g v xs) (hj : xs[j]? = some x) (hc : c < z) (hw : isCell w = true) (hy : (enc x).set c w = enc y)
    (hK : ∀ p l o, o = j * z → l ∈ blks v → OwnS enc z none0 (upd g l (some (.cells ((xs.set j y).map enc).flatten (bkOf z v)))) v (xs.set j y) →
      K p l o (upd g l (some (.cells ((xs.set j y).map enc).flatten (bkOf z v))))) :
    kIndexAddr v (.int kk j) z fun p => kPtr p fun l o => kSt g l (o + c) w (K p l o) := by
  have hlt : j < xs.length := by rcases Nat.lt_or_ge j xs.length with h | h; exact h; rw [List.getElem?_eq_none h] at hj; cases hj
  rcases h with ⟨h0, _⟩ | ⟨l, cc, bk, rfl, hg, h0, hl, hb⟩
  · omega
  · refine ⟨Int.natCast_nonneg _, by simpa using hlt, ?_⟩
    simp only [kPtr_p, Int.toNat_natCast, Nat.zero_add]
    have hfl := flat_setc hz hc xs j x hj hy
    have hll : (xs.map enc).flatten.length = xs.length * z := hl
    have hjz : j * z + c < xs.length * z := by
      have := Nat.mul_le_mul_right z (show j + 1 ≤ xs.length from hlt)
      rw [Nat.add_mul, Nat.one_mul] at this; omega
    have hbk : bk = bkOf z (.slice (some ⟨l, 0, none⟩) xs.length cc) ∧ bk.rw = true := by
      show bk = (if cc < LC then BK.exact else .loose z) ∧ bk.rw = true
      rcases hb with ⟨rfl, rfl, h⟩ | ⟨rfl, rfl⟩
      · rw [if_pos h]; exact ⟨rfl, rfl⟩
      · rw [if_neg (by omega)]; exact ⟨rfl, rfl⟩
    refine kSt_of hg hbk.2 (by rw [hll]; exact hjz) hw ?_
    rw [hfl, hbk.1]
    refine hK _ l _ rfl (by simp [blks, blkOf]) (.inr ⟨l, cc, bk, by rw [List.length_set], ?_, h0, ?_, ?_⟩)
    · rw [upd_same, hbk.1]
    · rw [flat_len enc z hz]
    · rw [List.length_set]; exact hb
theorem OwnS.isCell {α : Type} {enc : α → List Value} {z : Nat} {g g0 : G} {v : Value} {xs : List α} (h : OwnS enc z g0 g v xs) : Abs.isCell v = true := by
  rcases h with ⟨_, _, a, rfl, _⟩ | ⟨l, c, bk, rfl, _⟩ <;> rfl
end Go.Proofs.YtecojalpbppfeaaGreat.Abs

namespace Go.Proofs.YtecojalpbppfeaaGreat.Gen
open Go Go.Proofs.YtecojalpbppfeaaGreat.Abs Go.RowKit
variable {m l cc : Nat} {bk : BK}
theorem kExt {vs : List Value} {i : Nat} {v : Value} {K : Value → Prop} (h : vs[i]? = some v) (k : K v) : kExtract (.tuple vs.toArray) i K := by rw [kExtract_t]; exact kGet_of h k
theorem kBin_gtN {k : IntKind} {x y : Int} {K : Value → Prop} : kBin .int .gtr (.int k x) (.int k y) K = K (.bool (decide (y < x))) := kBin_gtr
set_option maxHeartbeats 4000000 in
theorem pdq_spec (s : Nat) : ∀ {g : G} {n a b L : Nat} {xs : List Int} {K : Cont}, b - a ≤ s → g l = some (Dt bk xs) → bk.rw = true → xs.length = m → a ≤ b → b ≤ m → b ≤ a + 16 → b ≤ a + (L + 12) → L ≤ 100 → m < 10000 →
    (∀ k q, k < a → a ≤ q → q < b → xs.getD k 0 ≤ xs.getD q 0) → (∀ ys g' n', Sws a b xs ys → SrtW a b ys → Fr l g g' → g' l = some (Dt bk ys) → K (.tuple #[]) g' n') →
    AC slices_pdqsortOrdered_uint64_id [sV l m cc, .int .i64 (a : Nat), .int .i64 (b : Nat), .int .i64 (L : Nat)] g n K := by
  induction s using Nat.strongRecOn with
  | ind s IH =>
  intro g n a b L xs K hs hg hr hm hab hbm h16 hL hL1 hsz hlo hK
  refine ACalls.fold X0_mono ?_
  rw [← slices_pdqsortOrdered_uint64_eq]
  simp only [slices_pdqsortOrdered_uint64]
  refine lfp_ind (m := b - a) (Inv := fun mm t g2 _ => ∃ (a' b' L' : Nat) (wb wp : Bool) (zs : List Int), b' - a' ≤ mm ∧ a ≤ a' ∧ a' ≤ b' ∧ b' ≤ b ∧ t 0 = sV l m cc ∧ t 1 = .int .i64 (a' : Nat) ∧ t 2 = .int .i64 (b' : Nat) ∧ t 3 = .int .i64 (L' : Nat) ∧ t 8 = .bool wb ∧ t 9 = .bool wp ∧ Fr l g g2 ∧ g2 l = some (Dt bk zs) ∧ PI a b a' b' xs zs ∧ b' ≤ a' + (L' + 12) ∧ L' ≤ 100) ?_
    ⟨a, b, L, true, true, xs, Nat.le_refl _, Nat.le_refl _, hab, Nat.le_refl _, rfl, rfl, rfl, rfl, rfl, rfl, Fr.refl _ _, hg, ⟨fun ys h1 h2 => ⟨h1, h2⟩, hlo, rfl⟩, hL, hL1⟩
  rintro I mm t g2 n2 ih ⟨a', b', L', wb, wp, zs, hmm, ha', hab', hb', t0, t1, t2, t3, t8, t9, f2, hg2, hPI, hL', hL1'⟩
  have hzl := hPI.len
  simp only [slices_pdqsortOrdered_uint64_l1, t0, t1, t2, t3, t8, kBin_sub]
  rw [i64 (x := (b' : Int) - a') (k := b' - a') (by omega) (by omega), kBin_leq]
  refine kSplit_d (fun h12 => ?_) (fun h12 => ?_)
  · refine ins_spec hg2 hr (by omega) hab' (by omega) (by omega) (fun ys g3 n3 hS hs' f3 hg3 => aRet_of (Sub.refl _) ?_)
    obtain ⟨q1, q2⟩ := hPI.fin ys hS hs'
    exact hK ys g3 n3 q1 q2 (f2.trans f3) hg3
  have h13 : a' + 13 ≤ b' := by omega
  rw [kBin_eql]
  refine kSplit_f (by simp; omega) ?_
  rw [kUn_not]
  -- behind the partition
  have j6 : ∀ (t' : Env) (zs : List Int) (g3 : G) (n3 p L'' : Nat) (x wb wp : Bool), Fr l g g3 → g3 l = some (Dt bk zs) → PI a b a' b' xs zs → a' ≤ p → p < b' → b' ≤ a' + (L'' + 13) → L'' ≤ 100 → (x = true → 0 < a' ∧ ¬ zs.getD (a' - 1) 0 < zs.getD p 0) → t' 87 = .bool x → t' 0 = sV l m cc → t' 1 = .int .i64 (a' : Nat) → t' 2 = .int .i64 (b' : Nat) → t' 3 = .int .i64 (L'' : Nat) → t' 8 = .bool wb → t' 9 = .bool wp → t' 10 = .int .i64 ((b' - a' : Nat) : Int) → t' 11 = .int .i64 (p : Nat) → slices_pdqsortOrdered_uint64_j6 AC K I t' g3 n3 := by
    intro t' zs g3 n3 p L'' x wb wp f3 hg3 hPI hp1 hp2 hL'' hLs hx q87 q0 q1 q2 q3 q8 q9 q10 q11
    have hzl := hPI.len
    simp only [slices_pdqsortOrdered_uint64_j6, q87, q0, q1, q2, q3, q10, q11]
    refine kSplit_c (fun hxt => ?_) (fun _ => ?_)
    · obtain ⟨h0, hle⟩ := hx hxt
      refine partE_spec hg3 hr (by omega) hp1 hp2 (by omega) (by omega) (fun mid ys g4 n4 hE f4 hg4 => ?_)
      have e1 := hE.am
      have e2 := hE.mb
      refine ih (b' - mid) _ _ _ (by omega) ⟨mid, b', L'', wb, wp, ys, Nat.le_refl _, by omega, by omega, hb', q0, rfl, q2, q3, q8, q9, f3.trans f4, hg4, hPI.eqs hE (by omega) (fun q h1 h2 => ?_), by omega, hLs⟩
      have := hPI.lo (a' - 1) q (by omega) h1 h2
      omega
    · refine part_spec hg3 hr (by omega) hp1 hp2 (by omega) (by omega) (fun mid al ys g4 n4 hP f4 hg4 => ?_)
      have e1 := hP.am
      have e2 := hP.mb
      have hyl := hP.sws.len
      refine kExt (vs := [.int .i64 (mid : Nat), .bool al]) rfl (kExt (vs := [.int .i64 (mid : Nat), .bool al]) rfl ?_)
      rw [kBin_sub, i64 (x := (mid : Int) - a') (k := mid - a') (by omega) (by omega), kBin_sub, i64 (x := (b' : Int) - mid) (k := b' - mid) (by omega) (by omega)]
      have q8' := tdivN (b' - a') 8 (by omega) (by omega)
      have q8l := Nat.div_le_self (b' - a') 8
      generalize (b' - a') / 8 = d8 at q8' q8l
      rw [show (8 : Int) = ((8 : Nat) : Int) from rfl, kBin_quo, q8']
      refine ⟨by simp, ?_⟩
      rw [kBin_lss]
      have hPIy := hPI.sws hP.sws
      refine kSplit_d (fun hlt => ?_) (fun hlt => ?_)
      · rw [kBin_geq]
        refine IH (mid - a') (by omega) (Nat.le_refl _) hg4 hr (by omega) e1 (by omega) (by omega) (by omega) hLs hsz (fun k q h1 h2 h3 => hPIy.lo k q h1 h2 (by omega)) (fun ws g5 n5 hS hs' f5 hg5 => ?_)
        rw [kBin_add, i64 (k := mid + 1) (by omega) (by omega)]
        exact ih (b' - (mid + 1)) _ _ _ (by omega) ⟨mid + 1, b', L'', _, _, ws, Nat.le_refl _, by omega, by omega, hb', q0, rfl, q2, q3, rfl, rfl, f3.trans (f4.trans f5), hg5, hPI.right hP (by omega) hS hs', by omega, hLs⟩
      · rw [kBin_geq, kBin_add, i64 (k := mid + 1) (by omega) (by omega)]
        refine IH (b' - (mid + 1)) (by omega) (Nat.le_refl _) hg4 hr (by omega) (by omega) (by omega) (by omega) (by omega) hLs hsz (fun k q h1 h2 h3 => ?_) (fun ws g5 n5 hS hs' f5 hg5 => ?_)
        · by_cases e : k < a'
          · exact hPIy.lo k q e (by omega) h3
          · have := hP.hi q (by omega) h3
            by_cases e : k = mid
            · subst e; exact this
            · have := hP.lo k (by omega) (by omega); omega
        · exact ih (mid - a') _ _ _ (by omega) ⟨a', mid, L'', _, _, ws, Nat.le_refl _, ha', e1, by omega, q0, q1, rfl, q3, rfl, rfl, f3.trans (f4.trans f5), hg5, hPI.left hP (by omega) hS hs', by omega, hLs⟩
  have j5 : ∀ (t' : Env) (zs : List Int) (g3 : G) (n3 p L'' : Nat) (wb wp : Bool), Fr l g g3 → g3 l = some (Dt bk zs) → PI a b a' b' xs zs → a' ≤ p → p < b' → b' ≤ a' + (L'' + 13) → L'' ≤ 100 → t' 0 = sV l m cc → t' 1 = .int .i64 (a' : Nat) → t' 2 = .int .i64 (b' : Nat) → t' 3 = .int .i64 (L'' : Nat) → t' 8 = .bool wb → t' 9 = .bool wp → t' 10 = .int .i64 ((b' - a' : Nat) : Int) → t' 11 = .int .i64 (p : Nat) → slices_pdqsortOrdered_uint64_j5 AC K I t' g3 n3 := by
    intro t' zs g3 n3 p L'' wb wp f3 hg3 hPI hp1 hp2 hL'' hLs q0 q1 q2 q3 q8 q9 q10 q11
    have hzl := hPI.len
    simp only [slices_pdqsortOrdered_uint64_j5, q0, q1, q11, kBin_gtr]
    refine kSplit_d (fun h0 => ?_) (fun h0 => ?_)
    · rw [kBin_sub, i64 (x := (a' : Int) - 1) (k := a' - 1) (by omega) (by omega)]
      refine ixD (by omega) (ldD hg3 (by omega) (ixD (by omega) (ldD hg3 (by omega) (Less_spec fun n' => ?_))))
      rw [kUn_not]
      exact j6 _ zs g3 _ p L'' (!decide (zs.getD (a' - 1) 0 < zs.getD p 0)) wb wp f3 hg3 hPI hp1 hp2 hL'' hLs (fun h => ⟨by omega, by simpa using h⟩) rfl q0 q1 q2 q3 q8 q9 q10 q11
    · exact j6 _ zs g3 _ p L'' false wb wp f3 hg3 hPI hp1 hp2 hL'' hLs (fun h => by cases h) rfl q0 q1 q2 q3 q8 q9 q10 q11
  have j4 : ∀ (t' : Env) (zs : List Int) (g3 : G) (n3 p L'' : Nat) (x wb wp : Bool), Fr l g g3 → g3 l = some (Dt bk zs) → PI a b a' b' xs zs → a' ≤ p → p < b' → b' ≤ a' + (L'' + 13) → L'' ≤ 100 → t' 68 = .bool x → t' 0 = sV l m cc → t' 1 = .int .i64 (a' : Nat) → t' 2 = .int .i64 (b' : Nat) → t' 3 = .int .i64 (L'' : Nat) → t' 8 = .bool wb → t' 9 = .bool wp → t' 10 = .int .i64 ((b' - a' : Nat) : Int) → t' 11 = .int .i64 (p : Nat) → slices_pdqsortOrdered_uint64_j4 AC K I t' g3 n3 := by
    intro t' zs g3 n3 p L'' x wb wp f3 hg3 hPI hp1 hp2 hL'' hLs q68 q0 q1 q2 q3 q8 q9 q10 q11
    have hzl := hPI.len
    simp only [slices_pdqsortOrdered_uint64_j4, q68, q0, q1, q2]
    refine kSplit_c (fun _ => ?_) (fun _ => j5 _ zs g3 _ p L'' wb wp f3 hg3 hPI hp1 hp2 hL'' hLs q0 q1 q2 q3 q8 q9 q10 q11)
    refine partial_spec hg3 (by omega) (by omega) (by omega) (by omega) (by omega) (fun r n4 hs' => ?_)
    refine kSplit_c (fun hrt => ?_) (fun _ => j5 _ zs g3 _ p L'' wb wp f3 hg3 hPI hp1 hp2 hL'' hLs q0 q1 q2 q3 q8 q9 q10 q11)
    obtain ⟨w1, w2⟩ := hPI.fin zs (.refl _) (hs' hrt)
    exact aRet_of (Sub.refl _) (hK zs g3 _ w1 w2 f3 hg3)
  have j3 : ∀ (t' : Env) (zs : List Int) (g3 : G) (n3 p L'' : Nat) (h : Int), Fr l g g3 → g3 l = some (Dt bk zs) → PI a b a' b' xs zs → a' ≤ p → p < b' → b' ≤ a' + (L'' + 13) → L'' ≤ 100 → t' 12 = .int .i64 h → t' 0 = sV l m cc → t' 1 = .int .i64 (a' : Nat) → t' 2 = .int .i64 (b' : Nat) → t' 3 = .int .i64 (L'' : Nat) → t' 8 = .bool wb → t' 9 = .bool wp → t' 10 = .int .i64 ((b' - a' : Nat) : Int) → t' 11 = .int .i64 (p : Nat) → slices_pdqsortOrdered_uint64_j3 AC K I t' g3 n3 := by
    intro t' zs g3 n3 p L'' h f3 hg3 hPI hp1 hp2 hL'' hLs q12 q0 q1 q2 q3 q8 q9 q10 q11
    simp only [slices_pdqsortOrdered_uint64_j3, q8, q9, q12, kBin_eql]
    refine kSplit_c (fun _ => kSplit_c (fun _ => ?_) (fun _ => ?_)) (fun _ => ?_)
    · exact j4 _ zs g3 _ p L'' (decide (h = 1)) wb wp f3 hg3 hPI hp1 hp2 hL'' hLs rfl q0 q1 q2 q3 q8 q9 q10 q11
    · exact j4 _ zs g3 _ p L'' false wb wp f3 hg3 hPI hp1 hp2 hL'' hLs rfl q0 q1 q2 q3 q8 q9 q10 q11
    · exact j4 _ zs g3 _ p L'' false wb wp f3 hg3 hPI hp1 hp2 hL'' hLs rfl q0 q1 q2 q3 q8 q9 q10 q11
  have j2 : ∀ (t' : Env) (zs : List Int) (g3 : G) (n3 L'' : Nat), Fr l g g3 → g3 l = some (Dt bk zs) → PI a b a' b' xs zs → b' ≤ a' + (L'' + 13) → L'' ≤ 100 → t' 0 = sV l m cc → t' 1 = .int .i64 (a' : Nat) → t' 2 = .int .i64 (b' : Nat) → t' 3 = .int .i64 (L'' : Nat) → t' 8 = .bool wb → t' 9 = .bool wp → t' 10 = .int .i64 ((b' - a' : Nat) : Int) → slices_pdqsortOrdered_uint64_j2 AC K I t' g3 n3 := by
    intro t' zs g3 n3 L'' f3 hg3 hPI hL'' hLs q0 q1 q2 q3 q8 q9 q10
    have hzl := hPI.len
    simp only [slices_pdqsortOrdered_uint64_j2, q0, q1, q2]
    refine choose_spec hg3 (by omega) (by omega) (by omega) (by omega) (by omega) (fun p h g4 n4 hp1 hp2 s4 => ?_)
    have hg4 := s4.live hg3
    have f4 := f3.trans (Fr.sub (l := l) s4)
    refine kExt (vs := [.int .i64 (p : Nat), .int .i64 h]) rfl (kExt (vs := [.int .i64 (p : Nat), .int .i64 h]) rfl ?_)
    rw [kBin_eql]
    refine kSplit_d (fun _ => ?_) (fun _ => ?_)
    · refine rev_spec hg4 hr (by omega) (by omega) (by omega) (by omega) (fun ys g5 n5 hS f5 hg5 => ?_)
      rw [kBin_sub, i64 (x := (b' : Int) - 1) (k := b' - 1) (by omega) (by omega), kBin_sub, i64 (x := (p : Int) - a') (k := p - a') (by omega) (by omega), kBin_sub, i64 (k := b' - 1 - (p - a')) (by omega) (by omega)]
      exact j3 _ ys g5 n5 (b' - 1 - (p - a')) L'' 1 (f4.trans f5) hg5 (hPI.sws hS) (by omega) (by omega) hL'' hLs rfl q0 q1 q2 q3 q8 q9 q10 rfl
    · exact j3 _ zs g4 n4 p L'' h f4 hg4 hPI hp1 hp2 hL'' hLs rfl q0 q1 q2 q3 q8 q9 q10 rfl
  cases hwb : wb with
  | false =>
    refine kSplit_t rfl ?_
    refine break_spec hg2 hr (by omega) h13 (by omega) (by omega) (by omega) (fun ys g3 n3 hS f3 hg3 => ?_)
    rw [i64 (x := (L' : Int) - 1) (k := L' - 1) (by omega) (by omega)]
    subst hwb
    exact j2 _ ys g3 n3 (L' - 1) (f2.trans f3) hg3 (hPI.sws hS) (by omega) (by omega) t0 t1 t2 rfl t8 t9 rfl
  | true =>
    refine kSplit_f rfl ?_
    subst hwb
    exact j2 _ zs g2 n2 L' f2 hg2 hPI (by omega) hL1' t0 t1 t2 t3 t8 t9 rfl
theorem SLen_spec {g : G} {n : Nat} {x : Nat} (h : x ≤ 16) {K : Cont} (hK : ∀ (L n' : Nat), x ≤ L + 12 → L ≤ 5 → K (.int .i64 (L : Nat)) g n') : AC math_bits_Len_id [.int .u64 (x : Nat)] g n K := by
  have H : ∀ L : Nat, x ≤ L + 12 → L ≤ 5 → ecallsH Tryz.prog (HT TT) 100 20 math_bits_Len_id [.int .u64 (x : Nat)] .nil 0 (fun v' _ _ => sameW v' (.int .i64 (L : Nat))) = true → AC math_bits_Len_id [.int .u64 (x : Nat)] g n K := fun L h1 h2 h3 => AC_ev (.int .i64 (L : Nat)) 100 20 rfl rfl h3 (fun n' => hK L n' h1 h2)
  obtain rfl | rfl | rfl | rfl | rfl | rfl | rfl | rfl | rfl | rfl | rfl | rfl | rfl | rfl | rfl | rfl | rfl : x = 0 ∨ x = 1 ∨ x = 2 ∨ x = 3 ∨ x = 4 ∨ x = 5 ∨ x = 6 ∨ x = 7 ∨ x = 8 ∨ x = 9 ∨ x = 10 ∨ x = 11 ∨ x = 12 ∨ x = 13 ∨ x = 14 ∨ x = 15 ∨ x = 16 := by omega
  · exact H 0 (by omega) (by omega) (by kernel_rfl)
  · exact H 1 (by omega) (by omega) (by kernel_rfl)
  · exact H 2 (by omega) (by omega) (by kernel_rfl)
  · exact H 2 (by omega) (by omega) (by kernel_rfl)
  · exact H 3 (by omega) (by omega) (by kernel_rfl)
  · exact H 3 (by omega) (by omega) (by kernel_rfl)
  · exact H 3 (by omega) (by omega) (by kernel_rfl)
  · exact H 3 (by omega) (by omega) (by kernel_rfl)
  · exact H 4 (by omega) (by omega) (by kernel_rfl)
  · exact H 4 (by omega) (by omega) (by kernel_rfl)
  · exact H 4 (by omega) (by omega) (by kernel_rfl)
  · exact H 4 (by omega) (by omega) (by kernel_rfl)
  · exact H 4 (by omega) (by omega) (by kernel_rfl)
  · exact H 4 (by omega) (by omega) (by kernel_rfl)
  · exact H 4 (by omega) (by omega) (by kernel_rfl)
  · exact H 4 (by omega) (by omega) (by kernel_rfl)
  · exact H 5 (by omega) (by omega) (by kernel_rfl)
/-- at most 16 words are sorted -/
theorem Sort_spec {g : G} {n : Nat} {xs : List Int} {v : Value} (hv : OwnS encW 1 none0 g v xs) (h16 : xs.length ≤ 16) {K : Cont} (hK : ∀ ys g' n', ys.Perm xs → SrtW 0 ys.length ys → (∀ l b, l ∉ blks v → g l = some b → g' l = some b) → OwnS encW 1 none0 g' v ys → K (.tuple #[]) g' n') :
    AC slices_Sort_uint64_uint64_id [v] g n K := by
  refine ACalls.fold X0_mono ?_
  rw [← slices_Sort_uint64_uint64_eq]
  simp only [slices_Sort_uint64_uint64]
  refine hv.sl.len ?_
  rw [kConv_i, wrapU rfl (by omega)]
  refine SLen_spec h16 (fun L n2 hL1 hL2 => ?_)
  have fl : ∀ ys : List Int, (ys.map encW).flatten = wv ys := fun ys => by unfold wv; induction ys with
    | nil => rfl
    | cons a r ih => simp [encW, ih]
  by_cases h0 : xs = []
  · subst h0
    refine ACalls.fold X0_mono ?_
    rw [← slices_pdqsortOrdered_uint64_eq]
    simp only [slices_pdqsortOrdered_uint64]
    refine lfp_ind (m := 0) (Inv := fun mm t g2 _ => g2 = g ∧ t 0 = v ∧ t 1 = .int .i64 0 ∧ t 2 = .int .i64 0) ?_ ⟨rfl, rfl, rfl, rfl⟩
    rintro I mm t g2 n3 _ ⟨rfl, t0, t1, t2⟩
    simp only [slices_pdqsortOrdered_uint64_l1, t0, t1, t2, kBin_sub]
    rw [i64 (k := 0) (by omega) (by omega), kBin_leq]
    refine kSplit_t (by simp) ?_
    refine ACalls.fold X0_mono ?_
    rw [← slices_insertionSortOrdered_uint64_eq]
    simp only [slices_insertionSortOrdered_uint64, kBin_add]
    rw [i64 (k := 1) (by omega) (by omega)]
    refine lfp_ind (m := 0) (Inv := fun mm t g1 _ => g1 = g2 ∧ t 2 = .int .i64 0 ∧ t 6 = .int .i64 ((1 : Nat) : Int)) ?_ ⟨rfl, rfl, rfl⟩
    rintro I2 mm2 t' g1 n4 _ ⟨rfl, t2', t6⟩
    simp only [slices_insertionSortOrdered_uint64_l1, t2', t6, kBin_lss]
    refine kSplit_f (by simp) (aRet_of (Sub.refl _) (aRet_of (Sub.refl _) (aRet_of (Sub.refl _) ?_)))
    exact hK [] _ _ (List.Perm.refl _) (fun p q h1 h2 h3 => by simp at h3) (fun _ _ _ h => h) hv
  · obtain ⟨l, c, bk, hbk, rfl, hg⟩ : ∃ l cc bk, blks v = [l] ∧ v = .slice (some ⟨l, 0, none⟩) xs.length cc ∧ g l = some (.cells (xs.map encW).flatten bk) := by
      rcases id hv with ⟨h1, _⟩ | ⟨l, c, bk, rfl, hg, _⟩
      · exact absurd (List.eq_nil_of_length_eq_zero h1) h0
      · exact ⟨l, c, bk, by simp [blks, blkOf], rfl, hg⟩
    rw [fl] at hg
    have hrw : bk.rw = true := by
      rcases hv with ⟨h1, _⟩ | ⟨l', c', bk', e, hg', _, _, h4⟩
      · exact absurd (List.eq_nil_of_length_eq_zero h1) h0
      · cases e
        rw [fl] at hg'; rw [hg] at hg'; cases hg'
        rcases h4 with ⟨_, rfl, _⟩ | ⟨_, rfl⟩ <;> rfl
    refine pdq_spec (cc := c) (m := xs.length) xs.length (a := 0) (b := xs.length) (L := L) (by omega) hg hrw rfl (by omega) (Nat.le_refl _) (by omega) (by omega) (by omega) (by omega) (fun k q h => by omega) (fun ys g' n' hS hs f hg' => aRet_of (Sub.refl _) ?_)
    refine hK ys g' n' hS.perm (by rw [hS.len]; exact hs) (fun x b h1 h2 => f x b (fun e => h1 (by rw [hbk, e]; simp)) h2) ?_
    rcases hv with ⟨h1, _⟩ | ⟨l', c', bk', e, hg2, h2, h3, h4⟩
    · exact absurd (List.eq_nil_of_length_eq_zero h1) h0
    · cases e
      rw [fl] at hg2; rw [hg] at hg2; cases hg2
      refine .inr ⟨l, c, bk, by rw [hS.len], by rw [fl]; exact hg', h2, ?_, by rw [hS.len]; exact h4⟩
      rw [fl]; simp [wv, hS.len]
end Go.Proofs.YtecojalpbppfeaaGreat.Gen

namespace Go.Proofs.YtecojalpbppfeaaGreat.Gen
open Go Go.Proofs.YtecojalpbppfeaaGreat.Abs Go.RowKit
variable {g : G} {n : Nat}
/-! ## what a heap holds, what a transaction is -/
def roomH (h : Hp) : Int := if GoodH h then 4 * h.log else 0
def wordsH (h : Hp) : Int := if GoodH h then 8 * h.hl else 0
theorem roomH_le (h : Hp) : 0 ≤ roomH h ∧ roomH h ≤ 64 := by
  unfold roomH; split
  · rename_i hg; obtain ⟨_, h1, h2, _⟩ := hg; omega
  · omega
theorem wordsH_le (h : Hp) : 0 ≤ wordsH h ∧ wordsH h ≤ 128 := by
  unfold wordsH; split
  · rename_i hg; obtain ⟨_, _, _, h1, h2, _⟩ := hg; omega
  · omega
theorem Room_spec {h : Hp} {K : Cont} (hK : ∀ g' n', Sub g g' → K (.int .i64 (roomH h)) g' n') : AC layout_Room_id [.agg (encH h).toArray] g n K := by
  refine ACalls.fold X0_mono ?_
  rw [← layout_Room_eq]
  simp only [layout_Room, kAgg_a]
  intro hn
  have h1s := (Sub.refl g).new hn (some (.cells (encH h) .exact))
  refine ldH (upd_same _ _ _) (of_spec fun lp g2 n2 hs hp => ?_)
  simp only [kNil_p, kPtr_p]
  refine kLd_of hp rfl ?_
  rw [kUn_not]
  have ss := h1s.trans hs
  by_cases hG : GoodH h
  · refine kSplit_f (by simp [hG]) (kLd_of hp rfl (aRet_of (Sub.refl _) ?_))
    have := hK g2 n2 ss
    obtain ⟨_, h1, h2, _⟩ := id hG
    rw [wrap64_of (by omega) (by omega)]
    unfold roomH at this; rw [if_pos hG] at this; exact this
  · refine kSplit_t (by simp [hG]) (aRet_of (Sub.refl _) ?_)
    have := hK g2 n2 ss
    unfold roomH at this; rw [if_neg hG] at this; exact this
theorem Wds_spec {h : Hp} {K : Cont} (hK : ∀ g' n', Sub g g' → K (.int .i64 (wordsH h)) g' n') : AC layout_Words_id [.agg (encH h).toArray] g n K := by
  refine ACalls.fold X0_mono ?_
  rw [← layout_Words_eq]
  simp only [layout_Words, kAgg_a]
  intro hn
  have h1s := (Sub.refl g).new hn (some (.cells (encH h) .exact))
  refine ldH (upd_same _ _ _) (of_spec fun lp g2 n2 hs hp => ?_)
  simp only [kNil_p, kPtr_p]
  refine kLd_of hp rfl ?_
  rw [kUn_not]
  have ss := h1s.trans hs
  by_cases hG : GoodH h
  · refine kSplit_f (by simp [hG]) (kLd_of hp rfl ?_)
    have := hK g2 n2 ss
    obtain ⟨_, _, _, h1, h2, _⟩ := id hG
    rw [kBin_mul, wrap64_of (by omega) (by omega), Int.mul_comm]
    refine aRet_of (Sub.refl _) ?_
    unfold wordsH at this; rw [if_pos hG] at this; exact this
  · refine kSplit_t (by simp [hG]) (aRet_of (Sub.refl _) ?_)
    have := hK g2 n2 ss
    unfold wordsH at this; rw [if_neg hG] at this; exact this
theorem rRoom_spec {h : Hp} {K : Cont} (hK : ∀ g' n', Sub g g' → K (.int .i64 (roomH h)) g' n') : AC bellowsref22_Room_id [.agg (encH h).toArray] g n K := by
  refine ACalls.fold X0_mono ?_
  rw [← bellowsref22_Room_eq]
  simp only [bellowsref22_Room, kAgg_a]
  intro hn
  have h1s := (Sub.refl g).new hn (some (.cells (encH h) .exact))
  have hb1 : upd g n (some (.cells (encH h) .exact)) n = some (.cells (encH h) .exact) := upd_same _ _ _
  generalize upd g n (some (.cells (encH h) .exact)) = g1 at h1s hb1
  refine ldH hb1 (rGoodH_spec fun g2 n2 hs => ?_)
  rw [kUn_not]
  have ss := h1s.trans hs
  have := hK g2 n2 ss
  by_cases hG : GoodH h
  · refine kSplit_f (by simp [hG]) (kLd_of (hs.live hb1) rfl ?_)
    obtain ⟨_, h1, h2, _⟩ := id hG
    rw [kBin_mul, wrap64_of (by omega) (by omega)]
    refine aRet_of (Sub.refl _) ?_
    unfold roomH at this; rw [if_pos hG] at this; exact this
  · refine kSplit_t (by simp [hG]) (aRet_of (Sub.refl _) ?_)
    unfold roomH at this; rw [if_neg hG] at this; exact this
theorem rWds_spec {h : Hp} {K : Cont} (hK : ∀ g' n', Sub g g' → K (.int .i64 (wordsH h)) g' n') : AC bellowsref22_Words_id [.agg (encH h).toArray] g n K := by
  refine ACalls.fold X0_mono ?_
  rw [← bellowsref22_Words_eq]
  simp only [bellowsref22_Words, kAgg_a]
  intro hn
  have h1s := (Sub.refl g).new hn (some (.cells (encH h) .exact))
  have hb1 : upd g n (some (.cells (encH h) .exact)) n = some (.cells (encH h) .exact) := upd_same _ _ _
  generalize upd g n (some (.cells (encH h) .exact)) = g1 at h1s hb1
  refine ldH hb1 (rGoodH_spec fun g2 n2 hs => ?_)
  rw [kUn_not]
  have ss := h1s.trans hs
  have := hK g2 n2 ss
  by_cases hG : GoodH h
  · refine kSplit_f (by simp [hG]) (kLd_of (hs.live hb1) rfl ?_)
    obtain ⟨_, _, _, h1, h2, _⟩ := id hG
    rw [kBin_mul, wrap64_of (by omega) (by omega)]
    refine aRet_of (Sub.refl _) ?_
    unfold wordsH at this; rw [if_pos hG] at this; exact this
  · refine kSplit_t (by simp [hG]) (aRet_of (Sub.refl _) ?_)
    unfold wordsH at this; rw [if_neg hG] at this; exact this
end Go.Proofs.YtecojalpbppfeaaGreat.Gen

namespace Go.Proofs.YtecojalpbppfeaaGreat.Gen
open Go Go.Proofs.YtecojalpbppfeaaGreat.Abs Go.RowKit
variable {g : G} {n : Nat}
/-! ## instructions: which fields an operation has -/
def hs (op : Int) : ByteArray :=
  if op = 1 then ⟨#[65, 73]⟩ else if (2 ≤ op ∧ op ≤ 7) ∨ op = 10 ∨ op = 11 then ⟨#[65, 66, 67]⟩ else if op = 8 ∨ op = 9 ∨ (18 ≤ op ∧ op ≤ 20) then ⟨#[65, 66, 73]⟩
  else if 12 ≤ op ∧ op ≤ 14 then ⟨#[66, 73]⟩ else if op = 17 then ⟨#[73]⟩ else if op = 21 then ⟨#[65]⟩ else ⟨#[]⟩
def hasL (op : Int) (c : UInt8) : Bool := (hs op).data.toList.any (· == c)
theorem ops23 {op : Int} (h0 : 0 ≤ op) (h1 : op ≤ 22) : op = 0 ∨ op = 1 ∨ op = 2 ∨ op = 3 ∨ op = 4 ∨ op = 5 ∨ op = 6 ∨ op = 7 ∨ op = 8 ∨ op = 9 ∨ op = 10 ∨ op = 11 ∨ op = 12 ∨ op = 13 ∨ op = 14 ∨ op = 15 ∨ op = 16 ∨ op = 17 ∨ op = 18 ∨ op = 19 ∨ op = 20 ∨ op = 21 ∨ op = 22 := by omega
set_option maxRecDepth 100000 in
theorem has_ev0 : ecallsH Tryz.prog (HT TT) 1000 100 isa_Has_id [.int .i64 0] .nil 0 (fun v' _ _ => sameW v' (.string (hs 0))) = true := by kernel_rfl
set_option maxRecDepth 100000 in
theorem has_ev1 : ecallsH Tryz.prog (HT TT) 1000 100 isa_Has_id [.int .i64 1] .nil 0 (fun v' _ _ => sameW v' (.string (hs 1))) = true := by kernel_rfl
set_option maxRecDepth 100000 in
theorem has_ev2 : ecallsH Tryz.prog (HT TT) 1000 100 isa_Has_id [.int .i64 2] .nil 0 (fun v' _ _ => sameW v' (.string (hs 2))) = true := by kernel_rfl
set_option maxRecDepth 100000 in
theorem has_ev3 : ecallsH Tryz.prog (HT TT) 1000 100 isa_Has_id [.int .i64 3] .nil 0 (fun v' _ _ => sameW v' (.string (hs 3))) = true := by kernel_rfl
set_option maxRecDepth 100000 in
theorem has_ev4 : ecallsH Tryz.prog (HT TT) 1000 100 isa_Has_id [.int .i64 4] .nil 0 (fun v' _ _ => sameW v' (.string (hs 4))) = true := by kernel_rfl
set_option maxRecDepth 100000 in
theorem has_ev5 : ecallsH Tryz.prog (HT TT) 1000 100 isa_Has_id [.int .i64 5] .nil 0 (fun v' _ _ => sameW v' (.string (hs 5))) = true := by kernel_rfl
set_option maxRecDepth 100000 in
theorem has_ev6 : ecallsH Tryz.prog (HT TT) 1000 100 isa_Has_id [.int .i64 6] .nil 0 (fun v' _ _ => sameW v' (.string (hs 6))) = true := by kernel_rfl
set_option maxRecDepth 100000 in
theorem has_ev7 : ecallsH Tryz.prog (HT TT) 1000 100 isa_Has_id [.int .i64 7] .nil 0 (fun v' _ _ => sameW v' (.string (hs 7))) = true := by kernel_rfl
set_option maxRecDepth 100000 in
theorem has_ev8 : ecallsH Tryz.prog (HT TT) 1000 100 isa_Has_id [.int .i64 8] .nil 0 (fun v' _ _ => sameW v' (.string (hs 8))) = true := by kernel_rfl
set_option maxRecDepth 100000 in
theorem has_ev9 : ecallsH Tryz.prog (HT TT) 1000 100 isa_Has_id [.int .i64 9] .nil 0 (fun v' _ _ => sameW v' (.string (hs 9))) = true := by kernel_rfl
set_option maxRecDepth 100000 in
theorem has_ev10 : ecallsH Tryz.prog (HT TT) 1000 100 isa_Has_id [.int .i64 10] .nil 0 (fun v' _ _ => sameW v' (.string (hs 10))) = true := by kernel_rfl
set_option maxRecDepth 100000 in
theorem has_ev11 : ecallsH Tryz.prog (HT TT) 1000 100 isa_Has_id [.int .i64 11] .nil 0 (fun v' _ _ => sameW v' (.string (hs 11))) = true := by kernel_rfl
set_option maxRecDepth 100000 in
theorem has_ev12 : ecallsH Tryz.prog (HT TT) 1000 100 isa_Has_id [.int .i64 12] .nil 0 (fun v' _ _ => sameW v' (.string (hs 12))) = true := by kernel_rfl
set_option maxRecDepth 100000 in
theorem has_ev13 : ecallsH Tryz.prog (HT TT) 1000 100 isa_Has_id [.int .i64 13] .nil 0 (fun v' _ _ => sameW v' (.string (hs 13))) = true := by kernel_rfl
set_option maxRecDepth 100000 in
theorem has_ev14 : ecallsH Tryz.prog (HT TT) 1000 100 isa_Has_id [.int .i64 14] .nil 0 (fun v' _ _ => sameW v' (.string (hs 14))) = true := by kernel_rfl
set_option maxRecDepth 100000 in
theorem has_ev15 : ecallsH Tryz.prog (HT TT) 1000 100 isa_Has_id [.int .i64 15] .nil 0 (fun v' _ _ => sameW v' (.string (hs 15))) = true := by kernel_rfl
set_option maxRecDepth 100000 in
theorem has_ev16 : ecallsH Tryz.prog (HT TT) 1000 100 isa_Has_id [.int .i64 16] .nil 0 (fun v' _ _ => sameW v' (.string (hs 16))) = true := by kernel_rfl
set_option maxRecDepth 100000 in
theorem has_ev17 : ecallsH Tryz.prog (HT TT) 1000 100 isa_Has_id [.int .i64 17] .nil 0 (fun v' _ _ => sameW v' (.string (hs 17))) = true := by kernel_rfl
set_option maxRecDepth 100000 in
theorem has_ev18 : ecallsH Tryz.prog (HT TT) 1000 100 isa_Has_id [.int .i64 18] .nil 0 (fun v' _ _ => sameW v' (.string (hs 18))) = true := by kernel_rfl
set_option maxRecDepth 100000 in
theorem has_ev19 : ecallsH Tryz.prog (HT TT) 1000 100 isa_Has_id [.int .i64 19] .nil 0 (fun v' _ _ => sameW v' (.string (hs 19))) = true := by kernel_rfl
set_option maxRecDepth 100000 in
theorem has_ev20 : ecallsH Tryz.prog (HT TT) 1000 100 isa_Has_id [.int .i64 20] .nil 0 (fun v' _ _ => sameW v' (.string (hs 20))) = true := by kernel_rfl
set_option maxRecDepth 100000 in
theorem has_ev21 : ecallsH Tryz.prog (HT TT) 1000 100 isa_Has_id [.int .i64 21] .nil 0 (fun v' _ _ => sameW v' (.string (hs 21))) = true := by kernel_rfl
set_option maxRecDepth 100000 in
theorem has_ev22 : ecallsH Tryz.prog (HT TT) 1000 100 isa_Has_id [.int .i64 22] .nil 0 (fun v' _ _ => sameW v' (.string (hs 22))) = true := by kernel_rfl
theorem Has_spec {op : Int} (h0 : 0 ≤ op) (h1 : op ≤ 22) {K : Cont} (hK : ∀ n', K (.string (hs op)) g n') : AC isa_Has_id [.int .i64 op] g n K := by
  have e : ecallsH Tryz.prog (HT TT) 1000 100 isa_Has_id [.int .i64 op] .nil 0 (fun v' _ _ => sameW v' (.string (hs op))) = true := by
    rcases ops23 h0 h1 with rfl | rfl | rfl | rfl | rfl | rfl | rfl | rfl | rfl | rfl | rfl | rfl | rfl | rfl | rfl | rfl | rfl | rfl | rfl | rfl | rfl | rfl | rfl
    · exact has_ev0
    · exact has_ev1
    · exact has_ev2
    · exact has_ev3
    · exact has_ev4
    · exact has_ev5
    · exact has_ev6
    · exact has_ev7
    · exact has_ev8
    · exact has_ev9
    · exact has_ev10
    · exact has_ev11
    · exact has_ev12
    · exact has_ev13
    · exact has_ev14
    · exact has_ev15
    · exact has_ev16
    · exact has_ev17
    · exact has_ev18
    · exact has_ev19
    · exact has_ev20
    · exact has_ev21
    · exact has_ev22
  exact AC_ev (.string (hs _)) 1000 100 (by rfl) (by rfl) e hK
theorem hs7 (op : Int) : hs op = ⟨#[65, 73]⟩ ∨ hs op = ⟨#[65, 66, 67]⟩ ∨ hs op = ⟨#[65, 66, 73]⟩ ∨ hs op = ⟨#[66, 73]⟩ ∨ hs op = ⟨#[73]⟩ ∨ hs op = ⟨#[65]⟩ ∨ hs op = ⟨#[]⟩ := by
  unfold hs; repeat' split
  all_goals simp
set_option maxRecDepth 100000 in
theorem con_s {s : ByteArray} {c : UInt8} (hc : c = 65 ∨ c = 66 ∨ c = 67 ∨ c = 73) (h : s = ⟨#[65, 73]⟩ ∨ s = ⟨#[65, 66, 67]⟩ ∨ s = ⟨#[65, 66, 73]⟩ ∨ s = ⟨#[66, 73]⟩ ∨ s = ⟨#[73]⟩ ∨ s = ⟨#[65]⟩ ∨ s = ⟨#[]⟩) {K : Cont} (hK : ∀ n', K (.bool (s.data.toList.any (· == c))) g n') :
    AC strings_Contains_id [.string s, .string ⟨#[c]⟩] g n K := by
  rcases hc with rfl | rfl | rfl | rfl <;> rcases h with rfl | rfl | rfl | rfl | rfl | rfl | rfl <;> exact AC_ev (.bool _) 1000 100 (by kernel_rfl) (by kernel_rfl) (by kernel_rfl) hK
theorem con_spec {op : Int} {c : UInt8} (hc : c = 65 ∨ c = 66 ∨ c = 67 ∨ c = 73) {K : Cont} (hK : ∀ n', K (.bool (hasL op c)) g n') : AC strings_Contains_id [.string (hs op), .string ⟨#[c]⟩] g n K := con_s hc (hs7 op) hK
set_option maxRecDepth 100000 in
theorem rHas_spec {op : Int} (h0 : 0 ≤ op) (h1 : op ≤ 22) {K : Cont} (hK : ∀ n', K (.string (hs op)) g n') : AC bellowsref10_Has_id [.int .i64 op] g n K := by
  rcases ops23 h0 h1 with rfl | rfl | rfl | rfl | rfl | rfl | rfl | rfl | rfl | rfl | rfl | rfl | rfl | rfl | rfl | rfl | rfl | rfl | rfl | rfl | rfl | rfl | rfl <;>
    exact AC_ev (.string (hs _)) 1000 100 (by kernel_rfl) (by kernel_rfl) (by kernel_rfl) hK
set_option maxRecDepth 100000 in
theorem rhas_spec {op : Int} (h0 : 0 ≤ op) (h1 : op ≤ 22) {c : UInt8} (hc : c = 65 ∨ c = 66 ∨ c = 67 ∨ c = 73) {K : Cont} (hK : ∀ n', K (.bool (hasL op c)) g n') : AC bellowsref10_has_id [.int .i64 op, .int .u8 c.toNat] g n K := by
  rcases hc with rfl | rfl | rfl | rfl <;> rcases ops23 h0 h1 with rfl | rfl | rfl | rfl | rfl | rfl | rfl | rfl | rfl | rfl | rfl | rfl | rfl | rfl | rfl | rfl | rfl | rfl | rfl | rfl | rfl | rfl | rfl <;>
    exact AC_ev (.bool (hasL _ _)) 1000 100 (by kernel_rfl) (by kernel_rfl) (by kernel_rfl) hK
end Go.Proofs.YtecojalpbppfeaaGreat.Gen

namespace Go.Proofs.YtecojalpbppfeaaGreat.Gen
open Go Go.Proofs.YtecojalpbppfeaaGreat.Abs Go.RowKit
variable {g : G} {n : Nat}
structure Ins where
  op : Int
  a : Int
  b : Int
  c : Int
  imm : Int
  deriving DecidableEq
def encI (i : Ins) : List Value := [.int .i64 i.op, .int .i64 i.a, .int .i64 i.b, .int .i64 i.c, .int .i64 i.imm]
theorem encI_len (i : Ins) : (encI i).length = 5 := rfl
theorem encI_cell (i : Ins) : ∀ v ∈ encI i, isCell v = true := by simp [encI, isCell]
theorem ldI {l : Nat} {x : Ins} {bk : BK} {K : List Value → Prop} (h : g l = some (.cells (encI x) bk)) (k : K (encI x)) : kLdN g l 0 5 K := by
  refine kLdN_of h (by rw [encI_len]; decide) ?_
  rw [List.drop_zero, List.take_of_length_le (by rw [encI_len]; exact Nat.le_refl _)]; exact k
def regOk (n : Int) (h : Bool) : Bool := decide (n = 0) || (h && (decide (0 < n) && decide (n < 8)))
def immOk (i : Ins) : Bool := if hasL i.op 73 then decide (-2147483648 ≤ i.imm) && (decide (i.imm ≤ 2147483647) && (decide (0 ≤ i.imm) || !decide (17 ≤ i.op ∧ i.op ≤ 20))) else decide (i.imm = 0)
def goodI (i : Ins) : Bool := regOk i.a (hasL i.op 65) && (regOk i.b (hasL i.op 66) && (regOk i.c (hasL i.op 67) && immOk i))
theorem is_spec {op : Int} {K : Cont} (hK : ∀ n', K (.bool (decide (0 ≤ op ∧ op ≤ 22))) g n') : AC isa_is_id [.int .i64 op] g n K := by
  refine ACalls.fold X0_mono ?_
  rw [← isa_is_eq]
  simp only [isa_is, kBin_geq, kBin_leq]
  by_cases h : 0 ≤ op
  · refine kSplit_t (by simp [h]) (aRet_of (Sub.refl _) ?_)
    have e : decide (op ≤ 22) = decide (0 ≤ op ∧ op ≤ 22) := by simp [h]
    rw [e]; exact hK _
  · refine kSplit_f (by simp; omega) (aRet_of (Sub.refl _) ?_)
    have e : false = decide (0 ≤ op ∧ op ≤ 22) := by simp [h]
    rw [e]; exact hK _
theorem jumps_spec {op : Int} {K : Cont} (hK : ∀ n', K (.bool (decide (17 ≤ op ∧ op ≤ 20))) g n') : AC isa_jumps_id [.int .i64 op] g n K := by
  refine ACalls.fold X0_mono ?_
  rw [← isa_jumps_eq]
  simp only [isa_jumps, kBin_geq, kBin_leq]
  by_cases h : 17 ≤ op
  · refine kSplit_t (by simp [h]) (aRet_of (Sub.refl _) ?_)
    have e : decide (op ≤ 20) = decide (17 ≤ op ∧ op ≤ 20) := by simp [h]
    rw [e]; exact hK _
  · refine kSplit_f (by simp; omega) (aRet_of (Sub.refl _) ?_)
    have e : false = decide (17 ≤ op ∧ op ≤ 20) := by simp [h]
    rw [e]; exact hK _
theorem register_spec {x : Int} {b : Bool} {K : Cont} (hK : ∀ n', K (.bool (regOk x b)) g n') : AC isa_register_id [.int .i64 x, .bool b] g n K := by
  refine ACalls.fold X0_mono ?_
  rw [← isa_register_eq]
  simp only [isa_register, kBin_eql, kBin_gtr, kBin_lss]
  by_cases h : x = 0
  · refine kSplit_t (by simp [h]) (aRet_of (Sub.refl _) ?_)
    have e : true = regOk x b := by simp [regOk, h]
    rw [e]; exact hK _
  · refine kSplit_f (by simp [h]) ?_
    cases b with
    | false =>
      refine kSplit_f rfl (aRet_of (Sub.refl _) ?_)
      have e : false = regOk x false := by simp [regOk, h]
      rw [e]; exact hK _
    | true =>
      refine kSplit_t rfl ?_
      by_cases h1 : 0 < x
      · refine kSplit_t (by simp [h1]) (aRet_of (Sub.refl _) ?_)
        have e : decide (x < 8) = regOk x true := by simp [regOk, h, h1]
        rw [e]; exact hK _
      · refine kSplit_f (by simp; omega) (aRet_of (Sub.refl _) ?_)
        have e : false = regOk x true := by simp [regOk, h, h1]
        rw [e]; exact hK _
theorem rreg_spec {x : Int} {K : Cont} (hK : ∀ n', K (.bool (decide (0 ≤ x ∧ x ≤ 7))) g n') : AC bellowsref10_reg_id [.int .i64 x] g n K := by
  refine ACalls.fold X0_mono ?_
  rw [← bellowsref10_reg_eq]
  simp only [bellowsref10_reg, kBin_geq, kBin_leq]
  by_cases h : 0 ≤ x
  · refine kSplit_t (by simp [h]) (aRet_of (Sub.refl _) ?_)
    have e : decide (x ≤ 7) = decide (0 ≤ x ∧ x ≤ 7) := by simp [h]
    rw [e]; exact hK _
  · refine kSplit_f (by simp; omega) (aRet_of (Sub.refl _) ?_)
    have e : false = decide (0 ≤ x ∧ x ≤ 7) := by simp [h]
    rw [e]; exact hK _

theorem Good_spec {i : Ins} (h0 : 0 ≤ i.op) (h1 : i.op ≤ 22) {K : Cont} (hK : ∀ g' n', Sub g g' → K (.bool (goodI i)) g' n') : AC isa_Good_id [.agg (encI i).toArray] g n K := by
  refine ACalls.fold X0_mono ?_
  rw [← isa_Good_eq]
  simp only [isa_Good, kAgg_a]
  intro hn
  have hu : Sub g (upd g n (some (.cells (encI i) .exact))) := (Sub.refl g).new hn _
  have hb : upd g n (some (.cells (encI i) .exact)) n = some (.cells (encI i) .exact) := upd_same _ _ _
  generalize upd g n (some (.cells (encI i) .exact)) = g1 at hu hb
  have j1 : ∀ (t : Env) (m : Nat) (b : Bool), t 7 = .bool b → t 3 = .string (hs i.op) → t 1 = ptr n 0 → (b = true → goodI i = false) → (b = false → goodI i = immOk i) → isa_Good_j1 AC K t g1 m := by
    intro t m b t7 t3 t1 hb1 hb0
    simp only [isa_Good_j1, t7, t3]
    cases b with
    | true =>
      refine kSplit_t rfl (aRet_of hu ?_)
      rw [← hb1 rfl]; exact hK _ _ (Sub.refl g)
    | false =>
      refine kSplit_f rfl (con_spec (c := 73) (.inr (.inr (.inr rfl))) fun n1 => ?_)
      rw [kUn_not]
      have e := hb0 rfl
      by_cases hI : hasL i.op 73 = true
      · refine kSplit_f (by simp [hI]) ?_
        have p1 : puts t [(31, .string (hs i.op)), (32, .bool (hasL i.op 73)), (33, .bool !hasL i.op 73), (30, .bool !hasL i.op 73)] 1 = ptr n 0 := t1
        simp only [isa_Good_j2, p1, kPtr_p, Nat.zero_add]
        refine kLd_of hb rfl ?_
        simp only [kBin_geq]
        by_cases q1 : -2147483648 ≤ i.imm
        · refine kSplit_t (by simpa using q1) (kLd_of hb rfl ?_)
          simp only [kBin_leq]
          by_cases q2 : i.imm ≤ 2147483647
          · refine kSplit_t (by simpa using q2) (kLd_of hb rfl ?_)
            simp only [kBin_geq]
            by_cases q3 : 0 ≤ i.imm
            · refine kSplit_t (by simpa using q3) (aRet_of hu ?_)
              have e2 : goodI i = true := by rw [e]; simp [immOk, hI, q1, q2, q3]
              rw [← e2]; exact hK _ _ (Sub.refl g)
            · refine kSplit_f (by simpa using q3) (kLd_of hb rfl (jumps_spec fun n2 => ?_))
              rw [kUn_not]
              refine aRet_of hu ?_
              have e2 : goodI i = !decide (17 ≤ i.op ∧ i.op ≤ 20) := by rw [e]; simp [immOk, hI, q1, q2, q3]
              rw [← e2]; exact hK _ _ (Sub.refl g)
          · refine kSplit_f (by simpa using q2) (aRet_of hu ?_)
            have e2 : goodI i = false := by rw [e]; simp [immOk, hI, q2]
            rw [← e2]; exact hK _ _ (Sub.refl g)
        · refine kSplit_f (by simpa using q1) (aRet_of hu ?_)
          have e2 : goodI i = false := by rw [e]; simp [immOk, hI, q1]
          rw [← e2]; exact hK _ _ (Sub.refl g)
      · refine kSplit_t (by simp [hI]) ?_
        simp only [t1, kPtr_p, Nat.zero_add]
        refine kLd_of hb rfl ?_
        simp only [kBin_eql]
        refine aRet_of hu ?_
        have e2 : goodI i = decide (i.imm = 0) := by rw [e]; simp [immOk, hI]
        rw [← e2]; exact hK _ _ (Sub.refl g)
  refine kLd_of hb rfl (Has_spec h0 h1 fun n1 => ?_)
  refine kLd_of hb rfl (is_spec fun n2 => ?_)
  have hin : decide (0 ≤ i.op ∧ i.op ≤ 22) = true := by simp [h0, h1]
  rw [hin, kUn_not]
  refine kSplit_f rfl (kLd_of hb rfl (con_spec (c := 65) (.inl rfl) fun n3 => ⟨rfl, register_spec fun n4 => ?_⟩))
  rw [kUn_not]
  by_cases r1 : regOk i.a (hasL i.op 65) = true
  · refine kSplit_f (by simp [r1]) (kLd_of hb rfl (con_spec (c := 66) (.inr (.inl rfl)) fun n5 => ⟨rfl, register_spec fun n6 => ?_⟩))
    rw [kUn_not]
    by_cases r2 : regOk i.b (hasL i.op 66) = true
    · refine kSplit_f (by simp [r2]) (kLd_of hb rfl (con_spec (c := 67) (.inr (.inr (.inl rfl))) fun n7 => ⟨rfl, register_spec fun n8 => ?_⟩))
      rw [kUn_not]
      refine j1 _ _ (!regOk i.c (hasL i.op 67)) rfl rfl rfl (fun h => ?_) (fun h => ?_)
      · simp at h; simp [goodI, h]
      · simp at h; simp [goodI, r1, r2, h]
    · refine kSplit_t (by simp [r2]) (j1 _ _ (!regOk i.b (hasL i.op 66)) rfl rfl rfl (fun h => ?_) (fun h => ?_))
      · simp at h; simp [goodI, h]
      · simp [r2] at h
  · refine kSplit_t (by simp [r1]) (j1 _ _ (!regOk i.a (hasL i.op 65)) rfl rfl rfl (fun h => ?_) (fun h => ?_))
    · simp at h; simp [goodI, h]
    · simp [r1] at h
end Go.Proofs.YtecojalpbppfeaaGreat.Gen

namespace Go.Proofs.YtecojalpbppfeaaGreat.Gen
open Go Go.Proofs.YtecojalpbppfeaaGreat.Abs Go.RowKit
variable {g : G} {n : Nat}
/-- a value that was told by 'or', over a guard -/
def OrS (t : Env) (p q : Nat) (x : Bool) : Prop := (t p = .bool true ∧ x = true) ∨ (t p = .bool false ∧ t q = .bool x)
def AndS (t : Env) (p q : Nat) (x : Bool) : Prop := (t p = .bool true ∧ t q = .bool x) ∨ (t p = .bool false ∧ x = false)
theorem OrS.go {t : Env} {p q : Nat} {x : Bool} {A B : Bool → Prop} (h : OrS t p q x) (hA : x = true → ∀ b, A b) (hB : x = false → ∀ b, B b) : kBool (t p) fun b => kSplit (bif b then (.bool true) else (t q)) (A b) (B b) := by
  rcases h with ⟨h1, h2⟩ | ⟨h1, h2⟩
  · rw [h1]; exact hA h2 _
  · rw [h1]; show kSplit (t q) _ _; rw [h2]; cases x with
    | true => exact hA rfl _
    | false => exact hB rfl _
theorem AndS.go {t : Env} {p q : Nat} {x : Bool} {A B : Bool → Prop} (h : AndS t p q x) (hA : x = true → ∀ b, A b) (hB : x = false → ∀ b, B b) : kBool (t p) fun b => kSplit (bif b then (t q) else (.bool false)) (A b) (B b) := by
  rcases h with ⟨h1, h2⟩ | ⟨h1, h2⟩
  · rw [h1]; show kSplit (t q) _ _; rw [h2]; cases x with
    | true => exact hA rfl _
    | false => exact hB rfl _
  · rw [h1]; exact hB h2 _
section
variable {i : Ins} {K : Cont} {l : Nat} {t : Env} {m : Nat}
abbrev IH (g : G) (l : Nat) (i : Ins) : Prop := g l = some (.cells (encI i) .exact)
theorem rG8 (hb : IH g l i) (hK : ∀ m, K (.bool (goodI i)) g m) {x j : Bool} (h1 : AndS t 104 107 x) (h3 : t 3 = .bool j) (tl : t 1 = ptr l 0) (hg : goodI i = (x && (!j || decide (0 ≤ i.imm)))) : bellowsref10_Good_j8 AC K t g m := by
  simp only [bellowsref10_Good_j8]
  refine h1.go (fun hx _ => ?_) (fun hx _ => ?_)
  · rw [h3, kUn_not]
    cases j with
    | false =>
      refine kSplit_t rfl (aRet_of (Sub.refl _) ?_)
      have e : true = goodI i := by rw [hg, hx]; rfl
      rw [e]; exact hK _
    | true =>
      refine kSplit_f rfl ?_
      rw [tl, kPtr_p]
      refine kLd_of hb rfl ?_
      simp only [kBin_geq]
      refine aRet_of (Sub.refl _) ?_
      have e : decide (0 ≤ i.imm) = goodI i := by rw [hg, hx]; rfl
      rw [e]; exact hK _
  · refine aRet_of (Sub.refl _) ?_
    have e : false = goodI i := by rw [hg, hx]; rfl
    rw [e]; exact hK _
theorem rG7 (hb : IH g l i) (hK : ∀ m, K (.bool (goodI i)) g m) {x : Bool} (h1 : OrS t 91 94 x) (tl : t 1 = ptr l 0)
    (hg : goodI i = ((decide (-2147483648 ≤ i.imm) && decide (i.imm < 2147483648)) && (!(x || decide (i.op = 20)) || decide (0 ≤ i.imm)))) : bellowsref10_Good_j7 AC K t g m := by
  simp only [bellowsref10_Good_j7]
  refine h1.go (fun hx _ => ?_) (fun hx _ => ?_)
  · rw [tl, kPtr_p]
    refine kLd_of hb rfl ?_
    simp only [kBin_geq]
    by_cases q : -2147483648 ≤ i.imm
    · refine kSplit_t (by simpa using q) ?_
      rw [kPtr_p]
      refine kLd_of hb rfl ?_
      simp only [kBin_lss]
      exact rG8 hb hK (x := decide (i.imm < 2147483648)) (.inl ⟨rfl, rfl⟩) (j := true) rfl tl (by rw [hg, hx]; simp [q])
    · exact kSplit_f (by simpa using q) (rG8 hb hK (x := false) (.inr ⟨rfl, rfl⟩) (j := true) rfl tl (by rw [hg]; simp [q]))
  · rw [tl, kPtr_p]
    refine kLd_of hb rfl ?_
    simp only [kBin_eql, kPtr_p]
    refine kLd_of hb rfl ?_
    simp only [kBin_geq]
    by_cases q : -2147483648 ≤ i.imm
    · refine kSplit_t (by simpa using q) ?_
      refine kLd_of hb rfl ?_
      simp only [kBin_lss]
      exact rG8 hb hK (x := decide (i.imm < 2147483648)) (.inl ⟨rfl, rfl⟩) (j := decide (i.op = 20)) rfl tl (by rw [hg, hx]; simp [q])
    · exact kSplit_f (by simpa using q) (rG8 hb hK (x := false) (.inr ⟨rfl, rfl⟩) (j := decide (i.op = 20)) rfl tl (by rw [hg]; simp [q]))
theorem rG6 (hb : IH g l i) (hK : ∀ m, K (.bool (goodI i)) g m) {x : Bool} (h1 : OrS t 86 89 x) (tl : t 1 = ptr l 0)
    (hg : goodI i = ((decide (-2147483648 ≤ i.imm) && decide (i.imm < 2147483648)) && (!((x || decide (i.op = 19)) || decide (i.op = 20)) || decide (0 ≤ i.imm)))) : bellowsref10_Good_j6 AC K t g m := by
  simp only [bellowsref10_Good_j6]
  refine h1.go (fun hx _ => ?_) (fun hx _ => ?_)
  · exact rG7 hb hK (x := true) (.inl ⟨rfl, rfl⟩) tl (by rw [hg, hx]; rfl)
  · rw [tl, kPtr_p]
    refine kLd_of hb rfl ?_
    simp only [kBin_eql]
    exact rG7 hb hK (x := decide (i.op = 19)) (.inr ⟨rfl, rfl⟩) tl (by rw [hg, hx, Bool.false_or])
theorem immOk_eq (i : Ins) (h : hasL i.op 73 = true) : immOk i = ((decide (-2147483648 ≤ i.imm) && decide (i.imm < 2147483648)) && (!(((decide (i.op = 17) || decide (i.op = 18)) || decide (i.op = 19)) || decide (i.op = 20)) || decide (0 ≤ i.imm))) := by
  unfold immOk; rw [if_pos h, Bool.eq_iff_iff]
  simp only [Bool.and_eq_true, Bool.or_eq_true, Bool.not_eq_true', decide_eq_true_eq, decide_eq_false_iff_not, Bool.or_eq_false_iff]
  omega
theorem rG5 (hb : IH g l i) (h0 : 0 ≤ i.op) (h22 : i.op ≤ 22) (hK : ∀ m, K (.bool (goodI i)) g m) {x : Bool} (h1 : OrS t 54 63 x) (tl : t 1 = ptr l 0)
    (hx1 : x = true → goodI i = false) (hx0 : x = false → goodI i = ((hasL i.op 67 || decide (i.c = 0)) && immOk i)) : bellowsref10_Good_j5 AC K t g m := by
  simp only [bellowsref10_Good_j5]
  refine h1.go (fun hx _ => ?_) (fun hx _ => ?_)
  · refine aRet_of (Sub.refl _) ?_
    rw [← hx1 hx]; exact hK _
  · have hg := hx0 hx
    rw [tl, kPtr_p]
    refine kLd_of hb rfl (rhas_spec h0 h22 (c := 67) (.inr (.inr (.inl rfl))) fun n1 => ?_)
    rw [kUn_not]
    by_cases hc : hasL i.op 67 = true
    · refine kSplit_f (by simp [hc]) ?_
      simp only [hc, Bool.true_or, Bool.true_and] at hg
      rw [kPtr_p]
      refine kLd_of hb rfl (rhas_spec h0 h22 (c := 73) (.inr (.inr (.inr rfl))) fun n2 => ?_)
      rw [kUn_not]
      by_cases hI : hasL i.op 73 = true
      · refine kSplit_f (by simp [hI]) ?_
        rw [immOk_eq i hI] at hg
        rw [kPtr_p]
        refine kLd_of hb rfl ?_
        simp only [kBin_eql]
        by_cases q : i.op = 17
        · exact kSplit_t (by simpa using q) (rG6 hb hK (x := true) (.inl ⟨rfl, rfl⟩) tl (by rw [hg]; simp [q]))
        · refine kSplit_f (by simpa using q) ?_
          rw [kPtr_p]
          refine kLd_of hb rfl ?_
          simp only [kBin_eql]
          exact rG6 hb hK (x := decide (i.op = 18)) (.inr ⟨rfl, rfl⟩) tl (by rw [hg]; simp [q])
      · refine kSplit_t (by simp [hI]) ?_
        rw [kPtr_p]
        refine kLd_of hb rfl ?_
        simp only [kBin_eql]
        refine aRet_of (Sub.refl _) ?_
        have e : decide (i.imm = 0) = goodI i := by rw [hg]; simp [immOk, hI]
        rw [e]; exact hK _
    · refine kSplit_t (by simp [hc]) ?_
      have hc' : hasL i.op 67 = false := by simpa using hc
      simp only [hc', Bool.false_or] at hg
      rw [kPtr_p]
      refine kLd_of hb rfl ?_
      simp only [kBin_neq]
      by_cases qc : i.c = 0
      · refine kSplit_f (by simpa using qc) ?_
        simp only [qc, decide_true, Bool.true_and] at hg
        rw [kPtr_p]
        refine kLd_of hb rfl (rhas_spec h0 h22 (c := 73) (.inr (.inr (.inr rfl))) fun n2 => ?_)
        rw [kUn_not]
        by_cases hI : hasL i.op 73 = true
        · refine kSplit_f (by simp [hI]) ?_
          rw [immOk_eq i hI] at hg
          rw [kPtr_p]
          refine kLd_of hb rfl ?_
          simp only [kBin_eql]
          by_cases q : i.op = 17
          · exact kSplit_t (by simpa using q) (rG6 hb hK (x := true) (.inl ⟨rfl, rfl⟩) tl (by rw [hg]; simp [q]))
          · refine kSplit_f (by simpa using q) ?_
            rw [kPtr_p]
            refine kLd_of hb rfl ?_
            simp only [kBin_eql]
            exact rG6 hb hK (x := decide (i.op = 18)) (.inr ⟨rfl, rfl⟩) tl (by rw [hg]; simp [q])
        · refine kSplit_t (by simp [hI]) ?_
          rw [kPtr_p]
          refine kLd_of hb rfl ?_
          simp only [kBin_eql]
          refine aRet_of (Sub.refl _) ?_
          have e : decide (i.imm = 0) = goodI i := by rw [hg]; simp [immOk, hI]
          rw [e]; exact hK _
      · refine kSplit_t (by simpa using qc) (aRet_of (Sub.refl _) ?_)
        have e : false = goodI i := by rw [hg]; simp [qc]
        rw [e]; exact hK _
theorem regOk_eq (x : Int) (h : Bool) : (!regOk x h) = ((h && !decide (0 ≤ x ∧ x ≤ 7)) || (!h && decide (x ≠ 0))) := by
  unfold regOk; cases h <;> rw [Bool.eq_iff_iff] <;> simp <;> omega
theorem rG4 (hb : IH g l i) (h0 : 0 ≤ i.op) (h22 : i.op ≤ 22) (hK : ∀ m, K (.bool (goodI i)) g m) {x : Bool} (h1 : OrS t 43 52 x) (tl : t 1 = ptr l 0)
    (hx1 : x = true → goodI i = false) (hx0 : x = false → goodI i = (regOk i.c (hasL i.op 67) && immOk i)) : bellowsref10_Good_j4 AC K t g m := by
  simp only [bellowsref10_Good_j4]
  refine h1.go (fun hx _ => ?_) (fun hx _ => ?_)
  · exact rG5 hb h0 h22 hK (x := true) (.inl ⟨rfl, rfl⟩) tl (fun _ => hx1 hx) (fun h => by cases h)
  · have hg := hx0 hx
    have er := regOk_eq i.c (hasL i.op 67)
    rw [tl, kPtr_p]
    refine kLd_of hb rfl (rhas_spec h0 h22 (c := 67) (.inr (.inr (.inl rfl))) fun n1 => ?_)
    by_cases hc : hasL i.op 67 = true
    · refine kSplit_t hc ?_
      rw [kPtr_p]
      refine kLd_of hb rfl (rreg_spec fun n2 => ?_)
      rw [kUn_not]
      refine rG5 hb h0 h22 hK (x := !decide (0 ≤ i.c ∧ i.c ≤ 7)) (.inr ⟨rfl, rfl⟩) tl (fun h => ?_) (fun h => ?_)
      · rw [hc] at er; simp only [Bool.true_and, Bool.not_true, Bool.false_and, Bool.or_false] at er
        rw [h] at er; rw [hg, hc]; simp at er; simp [er]
      · rw [hc] at er; simp only [Bool.true_and, Bool.not_true, Bool.false_and, Bool.or_false] at er
        rw [h] at er; rw [hg, hc]; simp at er; simp [er]
    · have hc' : hasL i.op 67 = false := by simpa using hc
      refine kSplit_f hc' ?_
      refine rG5 hb h0 h22 hK (x := false) (.inr ⟨rfl, rfl⟩) tl (fun h => by cases h) (fun _ => ?_)
      rw [hg, hc']
      have : regOk i.c false = decide (i.c = 0) := by simp [regOk]
      rw [this, Bool.false_or]
theorem rG3 (hb : IH g l i) (h0 : 0 ≤ i.op) (h22 : i.op ≤ 22) (hK : ∀ m, K (.bool (goodI i)) g m) {x : Bool} (h1 : OrS t 32 41 x) (tl : t 1 = ptr l 0)
    (hx1 : x = true → goodI i = false) (hx0 : x = false → goodI i = ((hasL i.op 66 || decide (i.b = 0)) && (regOk i.c (hasL i.op 67) && immOk i))) : bellowsref10_Good_j3 AC K t g m := by
  simp only [bellowsref10_Good_j3]
  refine h1.go (fun hx _ => ?_) (fun hx _ => ?_)
  · exact rG4 hb h0 h22 hK (x := true) (.inl ⟨rfl, rfl⟩) tl (fun _ => hx1 hx) (fun h => by cases h)
  · have hg := hx0 hx
    rw [tl, kPtr_p]
    refine kLd_of hb rfl (rhas_spec h0 h22 (c := 66) (.inr (.inl rfl)) fun n1 => ?_)
    rw [kUn_not]
    by_cases hc : hasL i.op 66 = true
    · refine kSplit_f (by simp [hc]) (rG4 hb h0 h22 hK (x := false) (.inr ⟨rfl, rfl⟩) tl (fun h => by cases h) (fun _ => ?_))
      rw [hg, hc]; rfl
    · have hc' : hasL i.op 66 = false := by simpa using hc
      refine kSplit_t (by simp [hc']) ?_
      rw [kPtr_p]
      refine kLd_of hb rfl ?_
      simp only [kBin_neq]
      refine rG4 hb h0 h22 hK (x := decide (i.b ≠ 0)) (.inr ⟨rfl, rfl⟩) tl (fun h => ?_) (fun h => ?_)
      · simp at h; rw [hg, hc']; simp [h]
      · simp at h; rw [hg, hc']; simp [h]
theorem rG2 (hb : IH g l i) (h0 : 0 ≤ i.op) (h22 : i.op ≤ 22) (hK : ∀ m, K (.bool (goodI i)) g m) {x : Bool} (h1 : OrS t 21 30 x) (tl : t 1 = ptr l 0)
    (hx1 : x = true → goodI i = false) (hx0 : x = false → goodI i = (regOk i.b (hasL i.op 66) && (regOk i.c (hasL i.op 67) && immOk i))) : bellowsref10_Good_j2 AC K t g m := by
  simp only [bellowsref10_Good_j2]
  refine h1.go (fun hx _ => ?_) (fun hx _ => ?_)
  · exact rG3 hb h0 h22 hK (x := true) (.inl ⟨rfl, rfl⟩) tl (fun _ => hx1 hx) (fun h => by cases h)
  · have hg := hx0 hx
    have er := regOk_eq i.b (hasL i.op 66)
    rw [tl, kPtr_p]
    refine kLd_of hb rfl (rhas_spec h0 h22 (c := 66) (.inr (.inl rfl)) fun n1 => ?_)
    by_cases hc : hasL i.op 66 = true
    · refine kSplit_t hc ?_
      rw [kPtr_p]
      refine kLd_of hb rfl (rreg_spec fun n2 => ?_)
      rw [kUn_not]
      refine rG3 hb h0 h22 hK (x := !decide (0 ≤ i.b ∧ i.b ≤ 7)) (.inr ⟨rfl, rfl⟩) tl (fun h => ?_) (fun h => ?_)
      · rw [hc] at er; simp only [Bool.true_and, Bool.not_true, Bool.false_and, Bool.or_false] at er
        rw [h] at er; rw [hg, hc]; simp at er; simp [er]
      · rw [hc] at er; simp only [Bool.true_and, Bool.not_true, Bool.false_and, Bool.or_false] at er
        rw [h] at er; rw [hg, hc]; simp at er; simp [er]
    · have hc' : hasL i.op 66 = false := by simpa using hc
      refine kSplit_f hc' ?_
      refine rG3 hb h0 h22 hK (x := false) (.inr ⟨rfl, rfl⟩) tl (fun h => by cases h) (fun _ => ?_)
      rw [hg, hc']
      have : regOk i.b false = decide (i.b = 0) := by simp [regOk]
      rw [this, Bool.false_or]
theorem rG1 (hb : IH g l i) (h0 : 0 ≤ i.op) (h22 : i.op ≤ 22) (hK : ∀ m, K (.bool (goodI i)) g m) {x : Bool} (h1 : AndS t 15 19 x) (tl : t 1 = ptr l 0)
    (hx1 : x = true → goodI i = false) (hx0 : x = false → goodI i = ((hasL i.op 65 || decide (i.a = 0)) && (regOk i.b (hasL i.op 66) && (regOk i.c (hasL i.op 67) && immOk i)))) : bellowsref10_Good_j1 AC K t g m := by
  simp only [bellowsref10_Good_j1]
  refine h1.go (fun hx _ => ?_) (fun hx _ => ?_)
  · exact rG2 hb h0 h22 hK (x := true) (.inl ⟨rfl, rfl⟩) tl (fun _ => hx1 hx) (fun h => by cases h)
  · have hg := hx0 hx
    rw [tl, kPtr_p]
    refine kLd_of hb rfl (rhas_spec h0 h22 (c := 65) (.inl rfl) fun n1 => ?_)
    rw [kUn_not]
    by_cases hc : hasL i.op 65 = true
    · refine kSplit_f (by simp [hc]) (rG2 hb h0 h22 hK (x := false) (.inr ⟨rfl, rfl⟩) tl (fun h => by cases h) (fun _ => ?_))
      rw [hg, hc]; rfl
    · have hc' : hasL i.op 65 = false := by simpa using hc
      refine kSplit_t (by simp [hc']) ?_
      rw [kPtr_p]
      refine kLd_of hb rfl ?_
      simp only [kBin_neq]
      refine rG2 hb h0 h22 hK (x := decide (i.a ≠ 0)) (.inr ⟨rfl, rfl⟩) tl (fun h => ?_) (fun h => ?_)
      · simp at h; rw [hg, hc']; simp [h]
      · simp at h; rw [hg, hc']; simp [h]
end
theorem rGood_spec {i : Ins} (h0 : 0 ≤ i.op) (h1 : i.op ≤ 22) {K : Cont} (hK : ∀ g' n', Sub g g' → K (.bool (goodI i)) g' n') : AC bellowsref10_Good_id [.agg (encI i).toArray] g n K := by
  refine ACalls.fold X0_mono ?_
  rw [← bellowsref10_Good_eq]
  simp only [bellowsref10_Good, kAgg_a]
  intro hn
  have hu : Sub g (upd g n (some (.cells (encI i) .exact))) := (Sub.refl g).new hn _
  have hb : upd g n (some (.cells (encI i) .exact)) n = some (.cells (encI i) .exact) := upd_same _ _ _
  generalize upd g n (some (.cells (encI i) .exact)) = g1 at hu hb
  have hK1 : ∀ m, K (.bool (goodI i)) g1 m := fun m => hK _ _ hu
  have er := regOk_eq i.a (hasL i.op 65)
  refine kLd_of hb rfl ?_
  simp only [kBin_lss]
  refine kSplit_f (by simpa using h0) (kLd_of hb rfl ?_)
  simp only [kBin_gtr]
  refine kSplit_f (by simpa using h1) (kLd_of hb rfl (rhas_spec h0 h1 (c := 65) (.inl rfl) fun n1 => ?_))
  by_cases hc : hasL i.op 65 = true
  · refine kSplit_t hc (kLd_of hb rfl (rreg_spec fun n2 => ?_))
    rw [kUn_not]
    refine rG1 hb h0 h1 hK1 (x := !decide (0 ≤ i.a ∧ i.a ≤ 7)) (.inl ⟨rfl, rfl⟩) rfl (fun h => ?_) (fun h => ?_)
    · rw [hc] at er; simp only [Bool.true_and, Bool.not_true, Bool.false_and, Bool.or_false] at er
      rw [h] at er; simp at er; simp [goodI, hc, er]
    · rw [hc] at er; simp only [Bool.true_and, Bool.not_true, Bool.false_and, Bool.or_false] at er
      rw [h] at er; simp at er; simp [goodI, hc, er]
  · have hc' : hasL i.op 65 = false := by simpa using hc
    refine kSplit_f hc' (rG1 hb h0 h1 hK1 (x := false) (.inr ⟨rfl, rfl⟩) rfl (fun h => by cases h) (fun _ => ?_))
    have : regOk i.a false = decide (i.a = 0) := by simp [regOk]
    simp [goodI, hc', this]
end Go.Proofs.YtecojalpbppfeaaGreat.Gen

namespace Go.Proofs.YtecojalpbppfeaaGreat.Gen
open Go Go.Proofs.YtecojalpbppfeaaGreat.Abs Go.RowKit
variable {g : G} {n : Nat}
def wordI (i : Ins) : Int := i.op + i.a * 256 + i.b * 4096 + i.c * 65536 + (i.imm % 4294967296) * 4294967296
def encodeI (i : Ins) : Int × Int := if goodI i then (wordI i, 0) else (0, 11)
theorem good_rng {i : Ins} (h : goodI i = true) : (0 ≤ i.a ∧ i.a ≤ 7) ∧ (0 ≤ i.b ∧ i.b ≤ 7) ∧ (0 ≤ i.c ∧ i.c ≤ 7) ∧ -2147483648 ≤ i.imm ∧ i.imm ≤ 2147483647 := by
  have r : ∀ x b, regOk x b = true → 0 ≤ x ∧ x ≤ 7 := by
    intro x b h; unfold regOk at h; cases b <;> simp at h <;> omega
  unfold goodI at h
  simp only [Bool.and_eq_true] at h
  obtain ⟨h1, h2, h3, h4⟩ := h
  refine ⟨r _ _ h1, r _ _ h2, r _ _ h3, ?_⟩
  unfold immOk at h4
  split at h4
  · simp only [Bool.and_eq_true, decide_eq_true_eq] at h4; omega
  · simp only [decide_eq_true_eq] at h4; omega
theorem u64w {x : Int} (h0 : 0 ≤ x) (h1 : x < 18446744073709551616) : IntKind.u64.wrap x = x := IntWalk.u64_in x ⟨h0, by omega⟩
theorem or_add {x y : Int} {q i : Nat} (h0 : 0 ≤ x) (hx : x < (2 ^ i : Nat)) (hy : y = ((2 ^ i * q : Nat) : Int)) (hs : x + y < 18446744073709551616) {k : IntKind} {K : Value → Prop} (hk : k = .u64) (kk : K (.int .u64 (x + y))) : kBin .int .or (.int .u64 x) (.int .u64 y) K := by
  have e : kBin .int .or (.int .u64 x) (.int .u64 y) K = K (.int .u64 (IntKind.u64.wrap (BitVec.ofInt 64 x ||| BitVec.ofInt 64 y).toNat)) := by simp only [kBin, kIntBin, true_and]; rfl
  rw [e]
  have hX : (BitVec.ofInt 64 x).toNat = x.toNat := by
    rw [BitVec.toNat_ofInt]; simp; omega
  have hY : (BitVec.ofInt 64 y).toNat = 2 ^ i * q := by
    rw [BitVec.toNat_ofInt, hy]
    have : (2 ^ i * q : Nat) < 18446744073709551616 := by omega
    omega
  have hor : x.toNat ||| 2 ^ i * q = x.toNat + 2 ^ i * q := by
    rw [Nat.or_comm, ← Nat.two_pow_add_eq_or_of_lt (by omega), Nat.add_comm]
  rw [BitVec.toNat_or, hX, hY, hor]
  have e2 : ((x.toNat + 2 ^ i * q : Nat) : Int) = x + y := by rw [hy]; omega
  rw [e2, u64w (by rw [hy]; omega) hs]
  exact kk
theorem shl_u {x s : Int} {K : Value → Prop} (hs : 0 ≤ s) (kk : K (.int .u64 (IntKind.u64.wrap (x * 2 ^ (min s.toNat 64))))) : kBin .int .shl (.int .u64 x) (.int .u64 s) K := ⟨trivial, hs, kk⟩
theorem mod32 (x : Int) : IntKind.u64.wrap (IntKind.u64.wrap x * 4294967296) = x % 4294967296 * 4294967296 := by
  have w : ∀ x, IntKind.u64.wrap x = x % 18446744073709551616 := fun x => rfl
  rw [w, w]; omega
theorem Encode_spec {i : Ins} (h0 : 0 ≤ i.op) (h1 : i.op ≤ 22) {K : Cont} (hK : ∀ g' n', Sub g g' → K (.tuple #[.int .u64 (encodeI i).1, .int .i64 (encodeI i).2]) g' n') : AC isa_Encode_id [.agg (encI i).toArray] g n K := by
  refine ACalls.fold X0_mono ?_
  rw [← isa_Encode_eq]
  simp only [isa_Encode, kAgg_a]
  intro hn
  have hu : Sub g (upd g n (some (.cells (encI i) .exact))) := (Sub.refl g).new hn _
  have hb : upd g n (some (.cells (encI i) .exact)) n = some (.cells (encI i) .exact) := upd_same _ _ _
  generalize upd g n (some (.cells (encI i) .exact)) = g1 at hu hb
  refine ldI hb (Good_spec h0 h1 fun g2 n2 hs2 => ?_)
  have hb2 := hs2.live hb
  rw [kUn_not]
  by_cases hG : goodI i = true
  · refine kSplit_f (by simp [hG]) ?_
    obtain ⟨ha, hbb, hc, hi⟩ := good_rng hG
    refine kLd_of hb2 rfl ?_
    rw [kConv_i]
    refine kLd_of hb2 rfl ?_
    rw [kConv_i]
    refine shl_u (by decide) ?_
    rw [u64w h0 (by omega), u64w ha.1 (by omega), show (2 : Int) ^ (min (8 : Int).toNat 64) = 256 from rfl, u64w (x := i.a * 256) (by omega) (by omega)]
    refine or_add (q := i.a.toNat) (i := 8) h0 (by show i.op < 256; omega) (by omega) (by omega) (k := .u64) rfl ?_
    refine kLd_of hb2 rfl ?_
    rw [kConv_i]
    refine shl_u (by decide) ?_
    rw [u64w hbb.1 (by omega), show (2 : Int) ^ (min (12 : Int).toNat 64) = 4096 from rfl, u64w (x := i.b * 4096) (by omega) (by omega)]
    refine or_add (q := i.b.toNat) (i := 12) (by omega) (by show _ < (4096 : Int); omega) (by omega) (by omega) (k := .u64) rfl ?_
    refine kLd_of hb2 rfl ?_
    rw [kConv_i]
    refine shl_u (by decide) ?_
    rw [u64w hc.1 (by omega), show (2 : Int) ^ (min (16 : Int).toNat 64) = 65536 from rfl, u64w (x := i.c * 65536) (by omega) (by omega)]
    refine or_add (q := i.c.toNat) (i := 16) (by omega) (by show _ < (65536 : Int); omega) (by omega) (by omega) (k := .u64) rfl ?_
    refine kLd_of hb2 rfl ?_
    rw [kConv_i]
    refine shl_u (by decide) ?_
    rw [show (2 : Int) ^ (min (32 : Int).toNat 64) = 4294967296 from rfl, mod32]
    refine or_add (q := (i.imm % 4294967296).toNat) (i := 32) (by omega) (by show _ < (4294967296 : Int); omega) (by omega) (by omega) (k := .u64) rfl ?_
    refine aRet_of (hu.trans hs2) ?_
    have e : encodeI i = (wordI i, 0) := by unfold encodeI; rw [if_pos hG]
    have := hK g2 n2 (hu.trans hs2)
    rw [e] at this
    exact hK _ _ (Sub.refl g) |> fun h => by rw [e] at h; exact h
  · refine kSplit_t (by simp [hG]) (aRet_of (hu.trans hs2) ?_)
    have e : encodeI i = (0, 11) := by unfold encodeI; rw [if_neg hG]
    have := hK _ n2 (Sub.refl g)
    rw [e] at this
    exact this
theorem rEncode_spec {i : Ins} (h0 : 0 ≤ i.op) (h1 : i.op ≤ 22) {K : Cont} (hK : ∀ g' n', Sub g g' → K (.tuple #[.int .u64 (encodeI i).1, .int .i64 (encodeI i).2]) g' n') : AC bellowsref10_Encode_id [.agg (encI i).toArray] g n K := by
  refine ACalls.fold X0_mono ?_
  rw [← bellowsref10_Encode_eq]
  simp only [bellowsref10_Encode, kAgg_a]
  intro hn
  have hu : Sub g (upd g n (some (.cells (encI i) .exact))) := (Sub.refl g).new hn _
  have hb : upd g n (some (.cells (encI i) .exact)) n = some (.cells (encI i) .exact) := upd_same _ _ _
  generalize upd g n (some (.cells (encI i) .exact)) = g1 at hu hb
  refine ldI hb (rGood_spec h0 h1 fun g2 n2 hs2 => ?_)
  have hb2 := hs2.live hb
  rw [kUn_not]
  by_cases hG : goodI i = true
  · refine kSplit_f (by simp [hG]) ?_
    obtain ⟨ha, hbb, hc, hi⟩ := good_rng hG
    have j : ∀ (t : Env) (m : Nat), t 1 = ptr n 0 → t 4 = .int .i64 (i.imm % 4294967296) → bellowsref10_Encode_j1 AC K t g2 m := by
      intro t m t1 t4
      simp only [bellowsref10_Encode_j1, t1, t4, kPtr_p, Nat.zero_add]
      refine kLd_of hb2 rfl ?_
      rw [kConv_i]
      refine kLd_of hb2 rfl ?_
      rw [kConv_i]
      refine shl_u (by decide) ?_
      rw [u64w h0 (by omega), u64w ha.1 (by omega), show (2 : Int) ^ (min (8 : Int).toNat 64) = 256 from rfl, u64w (x := i.a * 256) (by omega) (by omega), kBin_add, u64w (x := i.op + i.a * 256) (by omega) (by omega)]
      refine kLd_of hb2 rfl ?_
      rw [kConv_i]
      refine shl_u (by decide) ?_
      rw [u64w hbb.1 (by omega), show (2 : Int) ^ (min (12 : Int).toNat 64) = 4096 from rfl, u64w (x := i.b * 4096) (by omega) (by omega), kBin_add, u64w (x := i.op + i.a * 256 + i.b * 4096) (by omega) (by omega)]
      refine kLd_of hb2 rfl ?_
      rw [kConv_i]
      refine shl_u (by decide) ?_
      rw [u64w hc.1 (by omega), show (2 : Int) ^ (min (16 : Int).toNat 64) = 65536 from rfl, u64w (x := i.c * 65536) (by omega) (by omega), kBin_add, u64w (x := i.op + i.a * 256 + i.b * 4096 + i.c * 65536) (by omega) (by omega), kConv_i]
      refine shl_u (by decide) ?_
      rw [show (2 : Int) ^ (min (32 : Int).toNat 64) = 4294967296 from rfl, mod32, Int.emod_emod_of_dvd _ (Int.dvd_refl _), kBin_add, u64w (x := i.op + i.a * 256 + i.b * 4096 + i.c * 65536 + i.imm % 4294967296 * 4294967296) (by omega) (by omega)]
      refine aRet_of (hu.trans hs2) ?_
      have e : encodeI i = (wordI i, 0) := by unfold encodeI; rw [if_pos hG]
      have := hK _ m (Sub.refl g)
      rw [e] at this
      exact this
    refine kLd_of hb2 rfl ?_
    rw [kBin_lss]
    by_cases hneg : i.imm < 0
    · refine kSplit_t (by simpa using hneg) ?_
      rw [kBin_add, wrap64_of (by omega) (by omega)]
      refine j _ _ rfl ?_
      show Value.int .i64 (i.imm + 4294967296) = _
      congr 1; omega
    · refine kSplit_f (by simpa using hneg) (j _ _ rfl ?_)
      show Value.int .i64 i.imm = _
      congr 1; omega
  · refine kSplit_t (by simp [hG]) (aRet_of (hu.trans hs2) ?_)
    have e : encodeI i = (0, 11) := by unfold encodeI; rw [if_neg hG]
    have := hK _ n2 (Sub.refl g)
    rw [e] at this
    exact this
end Go.Proofs.YtecojalpbppfeaaGreat.Gen

namespace Go.Proofs.YtecojalpbppfeaaGreat.Gen
open Go Go.Proofs.YtecojalpbppfeaaGreat.Abs Go.RowKit
variable {g : G} {n : Nat}
def enc1 (i : Int) : List Value := [.int .i64 i]
theorem enc1_len (i : Int) : (enc1 i).length = 1 := rfl
theorem enc1_cell (i : Int) : ∀ v ∈ enc1 i, isCell v = true := by simp [enc1, isCell]
def encJ (p : Int × Int) : List Value := [.int .i64 p.1, .int .i64 p.2]
theorem encJ_len (p : Int × Int) : (encJ p).length = 2 := rfl
theorem encJ_cell (p : Int × Int) : ∀ v ∈ encJ p, isCell v = true := by simp [encJ, isCell]
def encT (p : Ins × Int) : List Value := encI p.1 ++ [.int .i64 p.2]
theorem encT_len (p : Ins × Int) : (encT p).length = 6 := rfl
theorem encT_cell (p : Ins × Int) : ∀ v ∈ encT p, isCell v = true := by simp [encT, encI, isCell]
/-- instructions with marks: what both builders have -/
structure Bd where
  items : List (Ins × Int)
  marks : List Int
  bad : Bool
def jmps : Nat → List (Ins × Int) → List (Int × Int)
  | _, [] => []
  | k, (_, to) :: r => if 0 ≤ to then ((k : Int), to) :: jmps (k + 1) r else jmps (k + 1) r
theorem jmps_append : ∀ (k : Nat) (a b : List (Ins × Int)), jmps k (a ++ b) = jmps k a ++ jmps (k + a.length) b
  | k, [], b => by simp [jmps]
  | k, (i, to) :: a, b => by
    simp only [List.cons_append, jmps, jmps_append (k + 1) a b, List.length_cons]
    rw [show k + 1 + a.length = k + (a.length + 1) by omega]
    split <;> simp
def Bd.add (B : Bd) (l : List Ins) : Bd := { B with items := B.items ++ l.map (·, -1) }
def Bd.mark (B : Bd) : Bd := { B with marks := B.marks ++ [-1] }
def Bd.here (B : Bd) (m : Int) : Bd := if 0 ≤ m ∧ m < B.marks.length ∧ B.marks.getD m.toNat 0 < 0 then { B with marks := B.marks.set m.toNat B.items.length } else { B with bad := true }
def Bd.jump (B : Bd) (i : Ins) (m : Int) : Bd := if 0 ≤ m ∧ m < B.marks.length ∧ 17 ≤ i.op ∧ i.op ≤ 20 then { B with items := B.items ++ [(i, m)] } else { B with bad := true }
structure BdS (g : G) (lb : Nat) (sl sm sj : Value) (B : Bd) : Prop where
  obj : g lb = some (.cells [sl, sm, sj, .bool B.bad] .exact)
  hl : OwnS encI 5 none0 g sl (B.items.map (·.1))
  hm : OwnS enc1 1 none0 g sm B.marks
  hj : OwnS encJ 2 none0 g sj (jmps 0 B.items)
  o : Ob g lb [sl, sm, sj]
def BdH (g : G) (fp : List Nat) (lb : Nat) (B : Bd) : Prop := ∃ sl sm sj, BdS g lb sl sm sj B ∧ fp = ObjF lb [sl, sm, sj]
structure RbS (g : G) (lb : Nat) (sl sm : Value) (B : Bd) : Prop where
  obj : g lb = some (.cells [sl, sm, .bool B.bad] .exact)
  hl : OwnS encT 6 none0 g sl B.items
  hm : OwnS enc1 1 none0 g sm B.marks
  o : Ob g lb [sl, sm]
def RbH (g : G) (fp : List Nat) (lb : Nat) (B : Bd) : Prop := ∃ sl sm, RbS g lb sl sm B ∧ fp = ObjF lb [sl, sm]
theorem Ob.liveF {lb : Nat} {fs : List Value} {b : Blk} (h : Ob g lb fs) (hb : g lb = some b) : ∀ l ∈ ObjF lb fs, ∃ b, g l = some b := by
  intro l hl
  rcases List.mem_cons.1 hl with rfl | hl
  · exact ⟨_, hb⟩
  · exact h.live l hl
theorem BdH.live {fp : List Nat} {lb : Nat} {B : Bd} (h : BdH g fp lb B) : ∀ l ∈ fp, ∃ b, g l = some b := by
  obtain ⟨sl, sm, sj, h, rfl⟩ := h; exact Ob.liveF h.o h.obj
theorem RbH.live {fp : List Nat} {lb : Nat} {B : Bd} (h : RbH g fp lb B) : ∀ l ∈ fp, ∃ b, g l = some b := by
  obtain ⟨sl, sm, h, rfl⟩ := h; exact Ob.liveF h.o h.obj
theorem BdH.keep {fp : List Nat} {lb : Nat} {B : Bd} {g' : G} (h : BdH g fp lb B) (hk : ∀ l b, g l = some b → l ∈ fp → g' l = some b) : BdH g' fp lb B := by
  obtain ⟨sl, sm, sj, h, rfl⟩ := h
  exact ⟨sl, sm, sj, ⟨hk _ _ h.obj (by simp [ObjF]), h.hl.keepB fun l b h1 h2 => hk l b h1 (by simp [ObjF, h2]), h.hm.keepB fun l b h1 h2 => hk l b h1 (by simp [ObjF, h2]), h.hj.keepB fun l b h1 h2 => hk l b h1 (by simp [ObjF, h2]), h.o.keep hk⟩, rfl⟩
theorem RbH.keep {fp : List Nat} {lb : Nat} {B : Bd} {g' : G} (h : RbH g fp lb B) (hk : ∀ l b, g l = some b → l ∈ fp → g' l = some b) : RbH g' fp lb B := by
  obtain ⟨sl, sm, h, rfl⟩ := h
  exact ⟨sl, sm, ⟨hk _ _ h.obj (by simp [ObjF]), h.hl.keepB fun l b h1 h2 => hk l b h1 (by simp [ObjF, h2]), h.hm.keepB fun l b h1 h2 => hk l b h1 (by simp [ObjF, h2]), h.o.keep hk⟩, rfl⟩
theorem BdH.mono {fp : List Nat} {lb : Nat} {B : Bd} {g' : G} (h : BdH g fp lb B) (hs : Sub g g') : BdH g' fp lb B := h.keep fun _ _ hl _ => hs.live hl
theorem RbH.mono {fp : List Nat} {lb : Nat} {B : Bd} {g' : G} (h : RbH g fp lb B) (hs : Sub g g') : RbH g' fp lb B := h.keep fun _ _ hl _ => hs.live hl
/-- two objects apart stay apart when one is changed -/
def Dis (a b : List Nat) : Prop := ∀ l ∈ a, l ∉ b
theorem Dis.symm {a b : List Nat} (h : Dis a b) : Dis b a := fun l hb ha => h l ha hb
theorem Dis.upd {a a' b : List Nat} {g g' : G} (h : Dis a b) (u : Upd a a' g g') (hb : ∀ l ∈ b, ∃ x, g l = some x) : Dis a' b := fun l ha hbl => by
  rcases u.2 l ha with h1 | h1
  · exact h l h1 hbl
  · obtain ⟨x, hx⟩ := hb l hbl
    rw [h1] at hx; cases hx
theorem RbH.upd {a a' fp : List Nat} {lb : Nat} {B : Bd} {g' : G} (h : RbH g fp lb B) (u : Upd a a' g g') (d : Dis a fp) : RbH g' fp lb B := h.keep fun l b hl hf => u.1 l b hl (fun ha => d l ha hf)
theorem BdH.upd {a a' fp : List Nat} {lb : Nat} {B : Bd} {g' : G} (h : BdH g fp lb B) (u : Upd a a' g g') (d : Dis a fp) : BdH g' fp lb B := h.keep fun l b hl hf => u.1 l b hl (fun ha => d l ha hf)

theorem items_add (B : Bd) (ys : List Ins) : (B.add ys).items.map (·.1) = B.items.map (·.1) ++ ys := by
  simp [Bd.add, Function.comp_def]
theorem jmps_add (B : Bd) (ys : List Ins) : jmps 0 (B.add ys).items = jmps 0 B.items := by
  simp only [Bd.add, jmps_append]
  have : ∀ (k : Nat) (l : List Ins), jmps k (l.map (·, (-1 : Int))) = [] := by
    intro k l; induction l generalizing k with
    | nil => rfl
    | cons a l ih => simp [jmps, ih]
  rw [this, List.append_nil]
theorem Add_spec {fp : List Nat} {lb : Nat} {B : Bd} {x : Value} {ys : List Ins} (hB : BdH g fp lb B) (hx : Sl encI 5 g x ys) (h0 : 0 < ys.length) (hsz : B.items.length + ys.length ≤ 1000000)
    {K : Cont} (hK : ∀ g' n' fp', BdH g' fp' lb (B.add ys) → Upd fp fp' g g' → K (.tuple #[]) g' n') : AC emit_Builder_Add_id [ptr lb 0, x] g n K := by
  refine ACalls.fold X0_mono ?_
  rw [← emit_Builder_Add_eq]
  simp only [emit_Builder_Add, kBin_p_neq, kNil_p, kPtr_p, Nat.zero_add]
  obtain ⟨sl, sm, sj, h, rfl⟩ := hB
  refine kSplit_t rfl (kLd_of h.obj rfl ?_)
  have hml : (B.items.map (·.1)).length = B.items.length := List.length_map ..
  refine own_app h.hl hx encI_cell (by decide) (by rw [hml]; omega) (by rw [hml]; omega) h0 (fun v' g1 n1 ho hk hf => ?_)
  obtain ⟨o1, o2, o3, o4, o5⟩ := Ob.app (A := []) (v := sl) (B := [sm, sj]) (v' := v') (b1 := .cells ([sl, sm, sj, .bool B.bad].set 0 v') .exact) h.o h.obj hk hf (fun l hl => ho.there l hl (by rw [List.length_append]; omega))
  refine kSt_of o5 rfl (by simp) ho.isCell (aRet_of (Sub.refl _) (hK _ _ _ ⟨v', sm, sj, ⟨upd_same _ _ _, ?_, ?_, ?_, o1⟩, rfl⟩ o4))
  · rw [items_add]; exact ho.keepB o3
  · exact h.hm.keepB (o2 sm (by simp))
  · rw [jmps_add]; exact h.hj.keepB (o2 sj (by simp))
theorem is_spec2 {fp : List Nat} {lb : Nat} {B : Bd} {m : Int} (hB : BdH g fp lb B) {K : Cont} (hK : ∀ n', K (.bool (decide (0 ≤ m ∧ m < B.marks.length))) g n') : AC emit_Builder_is_id [ptr lb 0, .int .i64 m] g n K := by
  refine ACalls.fold X0_mono ?_
  rw [← emit_Builder_is_eq]
  simp only [emit_Builder_is, kNil_p, kPtr_p, kBin_geq, Nat.zero_add]
  obtain ⟨sl, sm, sj, h, rfl⟩ := hB
  by_cases h0 : 0 ≤ m
  · refine kSplit_t (by simpa using h0) (kLd_of h.obj rfl (h.hm.sl.len ?_))
    rw [kBin_lss]
    have e : decide (m < (B.marks.length : Int)) = decide (0 ≤ m ∧ m < B.marks.length) := by simp [h0]
    rw [e]; exact aRet_of (Sub.refl _) (hK _)
  · have e : false = decide (0 ≤ m ∧ m < B.marks.length) := by simp [h0]
    refine kSplit_f (by simpa using h0) ?_
    rw [e]; exact aRet_of (Sub.refl _) (hK _)
theorem Mark_spec {fp : List Nat} {lb : Nat} {B : Bd} (hB : BdH g fp lb B) (hsz : B.marks.length ≤ 1000000)
    {K : Cont} (hK : ∀ g' n' fp', BdH g' fp' lb B.mark → Upd fp fp' g g' → K (.int .i64 B.marks.length) g' n') : AC emit_Builder_Mark_id [ptr lb 0] g n K := by
  refine ACalls.fold X0_mono ?_
  rw [← emit_Builder_Mark_eq]
  simp only [emit_Builder_Mark, kBin_p_eql, kNil_p, kPtr_p, Nat.zero_add]
  obtain ⟨sl, sm, sj, h, rfl⟩ := hB
  refine kSplit_f rfl (kLd_of h.obj rfl ⟨rfl, by simp [reps], fun hn => ?_⟩)
  have hs := (Sub.refl g).new hn (some (.cells (enc1 (-1)) .exact))
  have hx : Sl enc1 1 (upd g n (some (.cells (enc1 (-1)) .exact))) (.slice (some ⟨n, 0, none⟩) 1 1) [-1] := Sl.one rfl (upd_same _ _ _)
  refine own_app (g := upd g n (some (.cells (enc1 (-1)) .exact))) (h.hm.mono hs) hx enc1_cell (by decide) (by simp; omega) (by simp; omega) (by simp) (fun v' g1 n1 ho hk hf => ?_)
  obtain ⟨o1, o2, o3, o4, o5⟩ := Ob.app (g := g) (g1 := g1) (A := [sl]) (v := sm) (B := [sj]) (v' := v') (b1 := .cells ([sl, sm, sj, .bool B.bad].set 1 v') .exact) h.o h.obj (fun l b hl => hk l b (hs.live hl)) (fun l hl => hs.none (hf l hl)) (fun l hl => ho.there l hl (by simp))
  refine kSt_of o5 rfl (by simp) ho.isCell (kLd_of (upd_same _ _ _) rfl ((ho.keepB o3).sl.len ?_))
  rw [kBin_sub, List.length_append]
  refine aRet_of (Sub.refl _) ?_
  have e : IntKind.i64.wrap (((B.marks.length + [(-1 : Int)].length : Nat) : Int) - 1) = B.marks.length := by
    rw [wrap64_of (by simp <;> omega) (by simp <;> omega)]; simp
  rw [e]
  refine hK _ _ _ ⟨sl, v', sj, ⟨upd_same _ _ _, ?_, ?_, ?_, o1⟩, rfl⟩ o4
  · exact h.hl.keepB (o2 sl (by simp))
  · exact ho.keepB o3
  · exact h.hj.keepB (o2 sj (by simp))
end Go.Proofs.YtecojalpbppfeaaGreat.Gen

namespace Go.Proofs.YtecojalpbppfeaaGreat.Gen
open Go Go.Proofs.YtecojalpbppfeaaGreat.Abs Go.RowKit
variable {g : G} {n : Nat}
theorem getD_get {xs : List Int} {j : Nat} (h : j < xs.length) : xs[j]? = some (xs.getD j 0) := by
  rw [List.getElem?_eq_getElem h]; simp [List.getD_eq_getElem?_getD, List.getElem?_eq_getElem h]
theorem bad_eq {lb : Nat} {sl sm sj : Value} {B : Bd} (h : BdS g lb sl sm sj B) : BdH (upd g lb (some (.cells ([sl, sm, sj, .bool B.bad].set 3 (.bool true)) .exact))) (ObjF lb [sl, sm, sj]) lb { B with bad := true } ∧
    Upd (ObjF lb [sl, sm, sj]) (ObjF lb [sl, sm, sj]) g (upd g lb (some (.cells ([sl, sm, sj, .bool B.bad].set 3 (.bool true)) .exact))) := by
  obtain ⟨o1, o2, o3⟩ := Ob.cell (b1 := .cells ([sl, sm, sj, .bool B.bad].set 3 (.bool true)) .exact) h.o h.obj
  exact ⟨⟨sl, sm, sj, ⟨upd_same _ _ _, h.hl.keepB (o2 _ (by simp)), h.hm.keepB (o2 _ (by simp)), h.hj.keepB (o2 _ (by simp)), o1⟩, rfl⟩, o3⟩
theorem Here_spec {fp : List Nat} {lb : Nat} {B : Bd} {m : Int} (hB : BdH g fp lb B)
    {K : Cont} (hK : ∀ g' n' fp', BdH g' fp' lb (B.here m) → Upd fp fp' g g' → K (.tuple #[]) g' n') : AC emit_Builder_Here_id [ptr lb 0, .int .i64 m] g n K := by
  refine ACalls.fold X0_mono ?_
  rw [← emit_Builder_Here_eq]
  simp only [emit_Builder_Here, kBin_p_eql, kNil_p, kPtr_p, Nat.zero_add]
  refine kSplit_f rfl (is_spec2 hB fun n1 => ?_)
  obtain ⟨sl, sm, sj, h, rfl⟩ := hB
  rw [kUn_not]
  by_cases h1 : 0 ≤ m ∧ m < B.marks.length
  · have hlt : m.toNat < B.marks.length := by omega
    have hget := getD_get hlt
    refine kSplit_f (by simp [h1]) (kLd_of h.obj rfl ?_)
    have em : (Value.int .i64 m) = .int .i64 (m.toNat : Nat) := by congr 1; omega
    rw [em]
    refine h.hm.sl.idx enc1_len hget (fun l o ha => ?_)
    simp only [kPtr_p]
    refine ha.ld (i := 0) rfl ?_
    rw [kBin_geq]
    by_cases h2 : 0 ≤ B.marks.getD m.toNat 0
    · refine kSplit_t (by simpa using h2) (kSt_of h.obj rfl (by simp) rfl (aRet_of (Sub.refl _) ?_))
      have e : B.here m = { B with bad := true } := by unfold Bd.here; rw [if_neg (by omega)]
      refine hK _ _ _ ?_ (bad_eq h).2
      rw [e]; exact (bad_eq h).1
    · refine kSplit_f (by simpa using h2) (kLd_of h.obj rfl (kLd_of h.obj rfl (h.hl.sl.len ?_)))
      refine own_put (c := 0) enc1_len h.hm hget (y := (B.items.length : Int)) (by decide) rfl (by simp [enc1]) (fun p l o ho hl hm => aRet_of (Sub.refl _) ?_)
      have e : B.here m = { B with marks := B.marks.set m.toNat B.items.length } := by unfold Bd.here; rw [if_pos (by omega)]
      obtain ⟨o1, o2, o3, o4⟩ := Ob.elem (A := [sl]) (v := sm) (B := [sj]) (b1 := .cells (((B.marks.set m.toNat (B.items.length : Int)).map enc1).flatten) (bkOf 1 sm)) h.o hl
      refine hK _ _ _ ?_ o4
      rw [e]
      exact ⟨sl, sm, sj, ⟨o3 _ h.obj, h.hl.keepB (o2 _ (by simp)), hm, h.hj.keepB (o2 _ (by simp)), o1⟩, rfl⟩
  · refine kSplit_t (by simp only [h1, decide_false, Bool.not_false]) (kSt_of h.obj rfl (by simp) rfl (aRet_of (Sub.refl _) ?_))
    have e : B.here m = { B with bad := true } := by unfold Bd.here; rw [if_neg (by omega)]
    refine hK _ _ _ ?_ (bad_eq h).2
    rw [e]; exact (bad_eq h).1
theorem Jump_spec {fp : List Nat} {lb : Nat} {B : Bd} {i : Ins} {m : Int} (hB : BdH g fp lb B) (hsz : B.items.length ≤ 1000000) (hsj : (jmps 0 B.items).length ≤ 1000000)
    {K : Cont} (hK : ∀ g' n' fp', BdH g' fp' lb (B.jump i m) → Upd fp fp' g g' → K (.tuple #[]) g' n') : AC emit_Builder_Jump_id [ptr lb 0, .agg (encI i).toArray, .int .i64 m] g n K := by
  refine ACalls.fold X0_mono ?_
  rw [← emit_Builder_Jump_eq]
  simp only [emit_Builder_Jump, kAgg_a]
  intro hn
  have hu : Sub g (upd g n (some (.cells (encI i) .exact))) := (Sub.refl g).new hn _
  have hb : upd g n (some (.cells (encI i) .exact)) n = some (.cells (encI i) .exact) := upd_same _ _ _
  generalize upd g n (some (.cells (encI i) .exact)) = g1 at hu hb
  have hB1 := hB.mono hu
  have hnf : n ∉ fp := fun hf => by obtain ⟨b, hb⟩ := hB.live n hf; rw [hn] at hb; cases hb
  simp only [kBin_p_eql]
  refine kSplit_f rfl (is_spec2 hB1 fun n1 => ?_)
  rw [kUn_not]
  obtain ⟨sl, sm, sj, h, rfl⟩ := hB1
  simp only [kNil_p, kPtr_p, Nat.zero_add]
  have badc : B.jump i m = { B with bad := true } → ∀ n', K (.tuple #[]) (upd g1 lb (some (.cells ([sl, sm, sj, .bool B.bad].set 3 (.bool true)) .exact))) n' := fun e n' => by
    refine hK _ _ _ ?_ ((Upd.sub hu).trans (bad_eq h).2)
    rw [e]; exact (bad_eq h).1
  by_cases h1 : 0 ≤ m ∧ m < B.marks.length
  · refine kSplit_f (by simp [h1]) (kLd_of hb rfl ?_)
    rw [kBin_lss]
    by_cases h2 : i.op < 17
    · refine kSplit_t (by simpa using h2) (kSt_of h.obj rfl (by simp) rfl (aRet_of (Sub.refl _) (badc ?_ _)))
      unfold Bd.jump; rw [if_neg (by omega)]
    · refine kSplit_f (by simpa using h2) (kLd_of hb rfl ?_)
      rw [kBin_gtr]
      by_cases h3 : 20 < i.op
      · refine kSplit_t (by simpa using h3) (kSt_of h.obj rfl (by simp) rfl (aRet_of (Sub.refl _) (badc ?_ _)))
        unfold Bd.jump; rw [if_neg (by omega)]
      · have ej : B.jump i m = { B with items := B.items ++ [(i, m)] } := by unfold Bd.jump; rw [if_pos (by omega)]
        refine kSplit_f (by simpa using h3) (kLd_of h.obj rfl (kLd_of h.obj rfl (h.hl.sl.len ?_)))
        have hml : (B.items.map (·.1)).length = B.items.length := List.length_map ..
        rw [hml]
        refine ⟨rfl, by simp, rfl, by simp, rfl, by simp [reps], fun hn2 => ⟨?_, ?_⟩⟩
        · exact upd_ne _ _ (ne_of_live h.obj hn2).symm
        have hs := (Sub.refl g1).new hn2 (some (.cells (encJ ((B.items.length : Int), m)) .exact))
        have hx : Sl encJ 2 (upd g1 n1 (some (.cells (encJ ((B.items.length : Int), m)) .exact))) (.slice (some ⟨n1, 0, none⟩) 1 1) [((B.items.length : Int), m)] := Sl.one rfl (upd_same _ _ _)
        refine own_app (g := upd g1 n1 (some (.cells (encJ ((B.items.length : Int), m)) .exact))) (h.hj.mono hs) hx encJ_cell (by decide) (by simp; omega) (by simp; omega) (by simp) (fun v' g2 n2 ho hk hf => ?_)
        have hb2 : g2 n = some (.cells (encI i) .exact) := hk n _ (hs.live hb) (fun hm => hnf (by simp [ObjF, hm]))
        have hnl : n ≠ lb := fun e => hnf (by simp [ObjF, e])
        obtain ⟨o1, o2, o3, o4, o5⟩ := Ob.app (g := g1) (g1 := g2) (A := [sl, sm]) (v := sj) (B := []) (v' := v') (b1 := .cells ([sl, sm, sj, .bool B.bad].set 2 v') .exact) h.o h.obj (fun l b hl => hk l b (hs.live hl)) (fun l hl => hs.none (hf l hl)) (fun l hl => ho.there l hl (by simp))
        refine kSt_of o5 rfl (by simp) ho.isCell (ldI (x := i) ((upd_ne _ _ hnl).trans hb2) ?_)
        refine ⟨rfl, by simp [reps], fun hn3 => ?_⟩
        have e3 : splice (reps 1 [.int .i64 0, .int .i64 0, .int .i64 0, .int .i64 0, .int .i64 0]) 0 (encI i).toArray.toList = encI i := rfl
        rw [e3]
        -- the slices now, and the instruction
        have hl3 : OwnS encI 5 none0 (upd g2 lb (some (.cells ([sl, sm, sj, .bool B.bad].set 2 v') .exact))) sl (B.items.map (·.1)) := h.hl.keepB (o2 sl (by simp))
        have hm3 : OwnS enc1 1 none0 (upd g2 lb (some (.cells ([sl, sm, sj, .bool B.bad].set 2 v') .exact))) sm B.marks := h.hm.keepB (o2 sm (by simp))
        have hj3 := ho.keepB o3
        generalize hg3 : upd g2 lb (some (.cells ([sl, sm, sj, .bool B.bad].set 2 v') .exact)) = g3 at *
        have hobj : g3 lb = some (.cells [sl, sm, v', .bool B.bad] .exact) := by rw [← hg3]; exact upd_same _ _ _
        have hs4 := (Sub.refl g3).new hn3 (some (.cells (encI i) .exact))
        have hx4 : Sl encI 5 (upd g3 n2 (some (.cells (encI i) .exact))) (.slice (some ⟨n2, 0, none⟩) 1 1) [i] := Sl.one rfl (upd_same _ _ _)
        generalize upd g3 n2 (some (.cells (encI i) .exact)) = g4 at hs4 hx4
        refine ACalls.fold X0_mono ?_
        rw [← emit_Builder_Add_eq]
        simp only [emit_Builder_Add, kBin_p_neq, kNil_p, kPtr_p, Nat.zero_add]
        refine kSplit_t rfl (kLd_of (hs4.live hobj) rfl ?_)
        refine own_app (hl3.mono hs4) hx4 encI_cell (by decide) (by rw [hml]; simp; omega) (by rw [hml]; simp; omega) (by simp) (fun w' g5 n5 ho5 hk5 hf5 => ?_)
        obtain ⟨q1, q2, q3, q4, q5⟩ := Ob.app (g := g3) (g1 := g5) (A := []) (v := sl) (B := [sm, v']) (v' := w') (b1 := .cells ([sl, sm, v', .bool B.bad].set 0 w') .exact) o1 hobj (fun l b hl => hk5 l b (hs4.live hl)) (fun l hl => hs4.none (hf5 l hl)) (fun l hl => ho5.there l hl (by simp))
        refine kSt_of q5 rfl (by simp) ho5.isCell (aRet_of (Sub.refl _) (aRet_of (Sub.refl _) (hK _ _ _ ⟨w', sm, v', ⟨?_, ?_, ?_, ?_, q1⟩, rfl⟩ (((Upd.sub hu).trans o4).trans q4))))
        · rw [ej]; exact upd_same _ _ _
        · rw [ej]
          have : ({ B with items := B.items ++ [(i, m)] } : Bd).items.map (·.1) = B.items.map (·.1) ++ [i] := by simp
          rw [this]; exact ho5.keepB q3
        · rw [ej]; exact hm3.keepB (q2 sm (by simp))
        · rw [ej]
          have : jmps 0 ({ B with items := B.items ++ [(i, m)] } : Bd).items = jmps 0 B.items ++ [((B.items.length : Int), m)] := by
            simp [jmps_append, jmps, h1.1]
          rw [this]; exact hj3.keepB (q2 v' (by simp))
  · refine kSplit_t (by simp only [h1, decide_false, Bool.not_false]) (kSt_of h.obj rfl (by simp) rfl (aRet_of (Sub.refl _) (badc ?_ _)))
    unfold Bd.jump; rw [if_neg (by omega)]
end Go.Proofs.YtecojalpbppfeaaGreat.Gen

namespace Go.Proofs.YtecojalpbppfeaaGreat.Gen
open Go Go.Proofs.YtecojalpbppfeaaGreat.Abs Go.RowKit
variable {g : G} {n : Nat}
theorem fill6 (i : Ins) (to : Int) (K : List Value → Prop) (k : K (encT (i, to))) : kFill [(.int .i64 0), (.int .i64 0), (.int .i64 0), (.int .i64 0), (.int .i64 0), (.int .i64 0)] [(0, (some 5), (.agg (encI i).toArray)), (5, none, (.int .i64 to))] K :=
  ⟨rfl, by simp, rfl, by simp [splice, encI_len], k⟩
theorem fill61 (p : Ins × Int) (K : List Value → Prop) (k : K (encT p)) : kFill (reps 1 [(.int .i64 0), (.int .i64 0), (.int .i64 0), (.int .i64 0), (.int .i64 0), (.int .i64 0)]) [(0, (some 6), (.agg (encT p).toArray))] K :=
  ⟨rfl, by simp [reps], k⟩
theorem rb_app {lb : Nat} {sl sm : Value} {B : Bd} {p : Ins × Int} {bytes : Nat} {K : Cont} (h : RbS g lb sl sm B) (hn : g n = none) (hb : bytes ≤ 1048576) (hsz : B.items.length ≤ 1000000)
    (hK : ∀ v' g2 n2, (∀ l b, g l = some b → l ∉ blks sl → g2 l = some b) → OwnS encT 6 none0 g2 v' (B.items ++ [p]) → g2 lb = some (.cells [sl, sm, .bool B.bad] .exact) →
      RbS (upd g2 lb (some (.cells ([sl, sm, .bool B.bad].set 0 v') .exact))) lb v' sm { B with items := B.items ++ [p] } →
      Upd (ObjF lb [sl, sm]) (ObjF lb [v', sm]) g (upd g2 lb (some (.cells ([sl, sm, .bool B.bad].set 0 v') .exact))) → isCell v' = true → K v' g2 n2) :
    kAppend sl (.slice (some ⟨n, 0, none⟩) 1 1) 6 bytes (upd g n (some (.cells (encT p) .exact))) (n + 1) K := by
  have hs := (Sub.refl g).new hn (some (.cells (encT p) .exact))
  have hx : Sl encT 6 (upd g n (some (.cells (encT p) .exact))) (.slice (some ⟨n, 0, none⟩) 1 1) [p] := Sl.one rfl (upd_same _ _ _)
  have hm : (B.items.length + 1) * bytes ≤ 1000001 * 1048576 := Nat.mul_le_mul (by omega) hb
  refine own_app (g := upd g n (some (.cells (encT p) .exact))) (h.hl.mono hs) hx encT_cell hb (by simp; omega) (by simp; omega) (by simp) (fun v' g2 n2 ho hk hf => ?_)
  obtain ⟨o1, o2, o3, o4, o5⟩ := Ob.app (g := g) (g1 := g2) (A := []) (v := sl) (B := [sm]) (v' := v') (b1 := .cells ([sl, sm, .bool B.bad].set 0 v') .exact) h.o h.obj (fun l b hl => hk l b (hs.live hl)) (fun l hl => hs.none (hf l hl)) (fun l hl => ho.there l hl (by simp))
  exact hK v' g2 n2 (fun l b hl => hk l b (hs.live hl)) ho o5 ⟨upd_same _ _ _, ho.keepB o3, h.hm.keepB (o2 sm (by simp)), o1⟩ o4 ho.isCell
theorem rAdd_spec {fp : List Nat} {lb : Nat} {B : Bd} {x : Value} {ys : List Ins} (hB : RbH g fp lb B) (hx : Sl encI 5 g x ys) (hd : ∀ l, blkOf x = some l → l ∉ fp) (hsz : B.items.length + ys.length ≤ 1000000)
    {K : Cont} (hK : ∀ g' n' fp', RbH g' fp' lb (B.add ys) → Upd fp fp' g g' → K (.tuple #[]) g' n') : AC bellowsref21_Builder_Add_id [ptr lb 0, x] g n K := by
  refine ACalls.fold X0_mono ?_
  rw [← bellowsref21_Builder_Add_eq]
  simp only [bellowsref21_Builder_Add]
  refine lfp_ind (m := ys.length) (Inv := fun m t g2 n2 => ∃ j fp2, m + j = ys.length ∧ t 0 = ptr lb 0 ∧ t 1 = x ∧ t 4 = .int .i64 (j : Nat) ∧ RbH g2 fp2 lb { B with items := B.items ++ (ys.take j).map (·, -1) } ∧ Upd fp fp2 g g2 ∧ Sl encI 5 g2 x ys ∧ (∀ l, blkOf x = some l → l ∉ fp2)) ?_ ?_
  · rintro I m t g2 n2 ih ⟨j, fp2, hm, t0, t1, t4, hR, hU, hx2, hd2⟩
    simp only [bellowsref21_Builder_Add_l1, t0, t1, t4]
    refine hx2.len ?_
    rw [kBin_lss]
    by_cases hj : j < ys.length
    · refine kSplit_t (by simpa using hj) ?_
      obtain ⟨sl, sm, h, rfl⟩ := hR
      simp only [kNil_p, kPtr_p, Nat.zero_add]
      refine kLd_of h.obj rfl ?_
      have hget : ys[j]? = some ys[j] := List.getElem?_eq_getElem hj
      refine hx2.idx encI_len hget (fun l o ha => ?_)
      simp only [kPtr_p]
      refine ha.ldN rfl (fill6 _ _ _ (fill61 _ _ fun hn => ⟨upd_ne _ _ (ne_of_live h.obj hn).symm, ?_⟩))
      have hlj : (B.items ++ (ys.take j).map (·, (-1 : Int))).length ≤ 1000000 := by simp; omega
      refine rb_app h hn (by decide) hlj (fun v' g3 n3 hk ho hobj hR3 hU3 hc => ?_)
      refine kSt_of hobj rfl (by simp) hc ?_
      rw [kBin_add, wrap64_of (by omega) (by omega), show ((j : Nat) : Int) + 1 = ((j + 1 : Nat) : Int) by omega]
      refine ih (m - 1) _ _ _ (by omega) ⟨j + 1, _, by omega, t0, t1, rfl, ⟨_, _, ?_, rfl⟩, hU.trans hU3, ?_, ?_⟩
      · rw [take_add hget, List.map_append, ← List.append_assoc]
        exact hR3
      · exact hx2.keep (fun l b hl hbx => hU3.1 l b hl (hd2 l hbx))
      · intro l hl hf
        rcases hU3.2 l hf with h1 | h1
        · exact hd2 l hl h1
        · -- the slice's block is there
          obtain ⟨a, c, rfl, _, _, hh⟩ := hx2
          obtain ⟨l', o', bs, bk, ha', hg', _⟩ := hh (by omega)
          subst ha'
          simp [blkOf] at hl
          subst hl
          rw [h1] at hg'; cases hg'
    · refine kSplit_f (by simpa using hj) (aRet_of (Sub.refl _) (hK _ _ fp2 ?_ hU))
      rw [List.take_of_length_le (by omega)] at hR
      exact hR
  · refine ⟨0, fp, by omega, rfl, rfl, rfl, ?_, Upd.refl _ _, hx, hd⟩
    simpa using hB
theorem rMark_spec {fp : List Nat} {lb : Nat} {B : Bd} (hB : RbH g fp lb B) (hsz : B.marks.length ≤ 1000000)
    {K : Cont} (hK : ∀ g' n' fp', RbH g' fp' lb B.mark → Upd fp fp' g g' → K (.int .i64 B.marks.length) g' n') : AC bellowsref21_Builder_Mark_id [ptr lb 0] g n K := by
  refine ACalls.fold X0_mono ?_
  rw [← bellowsref21_Builder_Mark_eq]
  simp only [bellowsref21_Builder_Mark, kNil_p, kPtr_p, Nat.zero_add]
  obtain ⟨sl, sm, h, rfl⟩ := hB
  refine kLd_of h.obj rfl ⟨rfl, by simp [reps], fun hn => ?_⟩
  have hs := (Sub.refl g).new hn (some (.cells (enc1 (-1)) .exact))
  have hx : Sl enc1 1 (upd g n (some (.cells (enc1 (-1)) .exact))) (.slice (some ⟨n, 0, none⟩) 1 1) [-1] := Sl.one rfl (upd_same _ _ _)
  refine own_app (g := upd g n (some (.cells (enc1 (-1)) .exact))) (h.hm.mono hs) hx enc1_cell (by decide) (by simp; omega) (by simp; omega) (by simp) (fun v' g1 n1 ho hk hf => ?_)
  obtain ⟨o1, o2, o3, o4, o5⟩ := Ob.app (g := g) (g1 := g1) (A := [sl]) (v := sm) (B := []) (v' := v') (b1 := .cells ([sl, sm, .bool B.bad].set 1 v') .exact) h.o h.obj (fun l b hl => hk l b (hs.live hl)) (fun l hl => hs.none (hf l hl)) (fun l hl => ho.there l hl (by simp))
  refine kSt_of o5 rfl (by simp) ho.isCell (kLd_of (upd_same _ _ _) rfl ((ho.keepB o3).sl.len ?_))
  rw [kBin_sub, List.length_append]
  refine aRet_of (Sub.refl _) ?_
  have e : IntKind.i64.wrap (((B.marks.length + [(-1 : Int)].length : Nat) : Int) - 1) = B.marks.length := by
    rw [wrap64_of (by simp <;> omega) (by simp <;> omega)]; simp
  rw [e]
  exact hK _ _ _ ⟨sl, v', ⟨upd_same _ _ _, h.hl.keepB (o2 sl (by simp)), ho.keepB o3, o1⟩, rfl⟩ o4
theorem rbad_eq {lb : Nat} {sl sm : Value} {B : Bd} (h : RbS g lb sl sm B) : RbH (upd g lb (some (.cells ([sl, sm, .bool B.bad].set 2 (.bool true)) .exact))) (ObjF lb [sl, sm]) lb { B with bad := true } ∧
    Upd (ObjF lb [sl, sm]) (ObjF lb [sl, sm]) g (upd g lb (some (.cells ([sl, sm, .bool B.bad].set 2 (.bool true)) .exact))) := by
  obtain ⟨o1, o2, o3⟩ := Ob.cell (b1 := .cells ([sl, sm, .bool B.bad].set 2 (.bool true)) .exact) h.o h.obj
  exact ⟨⟨sl, sm, ⟨upd_same _ _ _, h.hl.keepB (o2 _ (by simp)), h.hm.keepB (o2 _ (by simp)), o1⟩, rfl⟩, o3⟩
theorem rHere_spec {fp : List Nat} {lb : Nat} {B : Bd} {m : Int} (hB : RbH g fp lb B)
    {K : Cont} (hK : ∀ g' n' fp', RbH g' fp' lb (B.here m) → Upd fp fp' g g' → K (.tuple #[]) g' n') : AC bellowsref21_Builder_Here_id [ptr lb 0, .int .i64 m] g n K := by
  refine ACalls.fold X0_mono ?_
  rw [← bellowsref21_Builder_Here_eq]
  simp only [bellowsref21_Builder_Here, kNil_p, kPtr_p, Nat.zero_add, kBin_lss]
  obtain ⟨sl, sm, h, rfl⟩ := hB
  have badc : ¬ (0 ≤ m ∧ m < B.marks.length ∧ B.marks.getD m.toNat 0 < 0) → ∀ n', aRet K (.tuple #[]) (upd g lb (some (.cells ([sl, sm, .bool B.bad].set 2 (.bool true)) .exact))) n' := fun hb n' => by
    have e : B.here m = { B with bad := true } := by unfold Bd.here; rw [if_neg hb]
    refine aRet_of (Sub.refl _) (hK _ _ _ ?_ (rbad_eq h).2)
    rw [e]; exact (rbad_eq h).1
  by_cases h0 : m < 0
  · exact kSplit_t (by simpa using h0) (kSt_of h.obj rfl (by simp) rfl (badc (by omega) _))
  refine kSplit_f (by simpa using h0) (kLd_of h.obj rfl (h.hm.sl.len ?_))
  rw [kBin_geq]
  by_cases h1 : (B.marks.length : Int) ≤ m
  · exact kSplit_t (by simpa using h1) (kSt_of h.obj rfl (by simp) rfl (badc (by omega) _))
  refine kSplit_f (by simpa using h1) (kLd_of h.obj rfl ?_)
  have hlt : m.toNat < B.marks.length := by omega
  have hget := getD_get hlt
  have em : (Value.int .i64 m) = .int .i64 (m.toNat : Nat) := by congr 1; omega
  rw [em]
  refine h.hm.sl.idx enc1_len hget (fun l o ha => ?_)
  simp only [kPtr_p]
  refine ha.ld (i := 0) rfl ?_
  rw [kBin_geq]
  by_cases h2 : 0 ≤ B.marks.getD m.toNat 0
  · exact kSplit_t (by simpa using h2) (kSt_of h.obj rfl (by simp) rfl (badc (by omega) _))
  · refine kSplit_f (by simpa using h2) (kLd_of h.obj rfl (kLd_of h.obj rfl (h.hl.sl.len ?_)))
    refine own_put (c := 0) enc1_len h.hm hget (y := (B.items.length : Int)) (by decide) rfl (by simp [enc1]) (fun p l o ho hl hm => aRet_of (Sub.refl _) ?_)
    have e : B.here m = { B with marks := B.marks.set m.toNat B.items.length } := by unfold Bd.here; rw [if_pos (by omega)]
    obtain ⟨o1, o2, o3, o4⟩ := Ob.elem (A := [sl]) (v := sm) (B := []) (b1 := .cells (((B.marks.set m.toNat (B.items.length : Int)).map enc1).flatten) (bkOf 1 sm)) h.o hl
    refine hK _ _ _ ?_ o4
    rw [e]
    exact ⟨sl, sm, ⟨o3 _ h.obj, h.hl.keepB (o2 _ (by simp)), hm, o1⟩, rfl⟩
theorem rJump_spec {fp : List Nat} {lb : Nat} {B : Bd} {i : Ins} {m : Int} (hB : RbH g fp lb B) (hsz : B.items.length ≤ 1000000)
    {K : Cont} (hK : ∀ g' n' fp', RbH g' fp' lb (B.jump i m) → Upd fp fp' g g' → K (.tuple #[]) g' n') : AC bellowsref21_Builder_Jump_id [ptr lb 0, .agg (encI i).toArray, .int .i64 m] g n K := by
  refine ACalls.fold X0_mono ?_
  rw [← bellowsref21_Builder_Jump_eq]
  simp only [bellowsref21_Builder_Jump, kAgg_a]
  intro hn
  have hu : Sub g (upd g n (some (.cells (encI i) .exact))) := (Sub.refl g).new hn _
  have hb : upd g n (some (.cells (encI i) .exact)) n = some (.cells (encI i) .exact) := upd_same _ _ _
  generalize upd g n (some (.cells (encI i) .exact)) = g1 at hu hb
  have hnf : n ∉ fp := fun hf => by obtain ⟨b, hb⟩ := hB.live n hf; rw [hn] at hb; cases hb
  have hB1 := hB.mono hu
  obtain ⟨sl, sm, h, rfl⟩ := hB1
  simp only [kNil_p, kPtr_p, Nat.zero_add, kBin_lss]
  have badc : ¬ (0 ≤ m ∧ m < B.marks.length ∧ 17 ≤ i.op ∧ i.op ≤ 20) → ∀ n', aRet K (.tuple #[]) (upd g1 lb (some (.cells ([sl, sm, .bool B.bad].set 2 (.bool true)) .exact))) n' := fun hb n' => by
    have e : B.jump i m = { B with bad := true } := by unfold Bd.jump; rw [if_neg hb]
    refine aRet_of (Sub.refl _) (hK _ _ _ ?_ ((Upd.sub hu).trans (rbad_eq h).2))
    rw [e]; exact (rbad_eq h).1
  by_cases h0 : m < 0
  · exact kSplit_t (by simpa using h0) (kSt_of h.obj rfl (by simp) rfl (badc (by omega) _))
  refine kSplit_f (by simpa using h0) (kLd_of h.obj rfl (h.hm.sl.len ?_))
  rw [kBin_geq]
  by_cases h1 : (B.marks.length : Int) ≤ m
  · exact kSplit_t (by simpa using h1) (kSt_of h.obj rfl (by simp) rfl (badc (by omega) _))
  refine kSplit_f (by simpa using h1) (kLd_of hb rfl ?_)
  have good : (17 ≤ i.op ∧ i.op ≤ 20) → ∀ n1 : Nat, (kLd g1 lb 0 fun v44 => kLdN g1 n 0 5 fun c45 => kFill [(.int .i64 0), (.int .i64 0), (.int .i64 0), (.int .i64 0), (.int .i64 0), (.int .i64 0)] [(0, (some 5), (.agg c45.toArray)), (5, none, (.int .i64 m))] fun c47 =>
      kFill (reps 1 [(.int .i64 0), (.int .i64 0), (.int .i64 0), (.int .i64 0), (.int .i64 0), (.int .i64 0)]) [(0, (some 6), (.agg c47.toArray))] fun c48 => kNew c48 .exact g1 n1 fun l48 g5 n48 =>
        g5 lb = g1 lb ∧ kAppend v44 (.slice (some ⟨l48, 0, none⟩) 1 1) 6 48 g5 n48 fun v49 g6 n49 => kSt g6 lb 0 v49 fun g7 => aRet K (.tuple #[]) g7 n49) := by
    intro hop n1
    have ej : B.jump i m = { B with items := B.items ++ [(i, m)] } := by unfold Bd.jump; rw [if_pos (by omega)]
    refine kLd_of h.obj rfl (ldI hb (fill6 _ _ _ (fill61 _ _ fun hn1 => ⟨upd_ne _ _ (ne_of_live h.obj hn1).symm, ?_⟩)))
    refine rb_app h hn1 (by decide) hsz (fun v' g3 n3 hk ho hobj hR3 hU3 hc => ?_)
    refine kSt_of hobj rfl (by simp) hc (aRet_of (Sub.refl _) (hK _ _ _ ?_ ((Upd.sub hu).trans hU3)))
    rw [ej]; exact ⟨_, _, hR3, rfl⟩
  rw [kBin_neq]
  by_cases q1 : i.op = 17
  · exact kSplit_f (by simpa using q1) (good (by omega) _)
  refine kSplit_t (by simpa using q1) (kLd_of hb rfl ?_)
  rw [kBin_neq]
  by_cases q2 : i.op = 18
  · exact kSplit_f (by simpa using q2) (good (by omega) _)
  refine kSplit_t (by simpa using q2) (kLd_of hb rfl ?_)
  rw [kBin_neq]
  by_cases q3 : i.op = 19
  · exact kSplit_f (by simpa using q3) (good (by omega) _)
  refine kSplit_t (by simpa using q3) (kLd_of hb rfl ?_)
  rw [kBin_neq]
  by_cases q4 : i.op = 20
  · exact kSplit_f (by simpa using q4) (good (by omega) _)
  · exact kSplit_t (by simpa using q4) (kSt_of h.obj rfl (by simp) rfl (badc (by omega) _))
end Go.Proofs.YtecojalpbppfeaaGreat.Gen

namespace Go.Proofs.YtecojalpbppfeaaGreat.Gen
open Go Go.Proofs.YtecojalpbppfeaaGreat.Abs Go.RowKit
variable {g : G} {n : Nat}
/-! ## the words of a builder -/
def Bd.fix (B : Bd) (p : Ins × Int) : Ins := if 0 ≤ p.2 then { p.1 with imm := B.marks.getD p.2.toNat 0 } else p.1
/-- the first instructions as words, till one has no form -/
def words : List Ins → List Int × Bool
  | [] => ([], true)
  | i :: r => if goodI i then ((wordI i) :: (words r).1, (words r).2) else ([], false)
def Bd.done (B : Bd) : List Int × Int :=
  if B.bad then ([], 1) else if B.items.any (fun p => decide (0 ≤ p.2) && decide (B.marks.getD p.2.toNat 0 < 0)) then ([], 20)
  else if (words (B.items.map B.fix)).2 = false then ([], 11) else if 4096 < B.items.length then ([], 3) else ((words (B.items.map B.fix)).1, 0)
structure Bd.ok (B : Bd) : Prop where
  it : ∀ p ∈ B.items, 0 ≤ p.1.op ∧ p.1.op ≤ 22 ∧ p.2 < B.marks.length
  big : B.items.length ≤ 1000000
theorem words_len : ∀ (l : List Ins), (words l).2 = true → (words l).1.length = l.length
  | [], _ => rfl
  | i :: r, h => by
    unfold words at h ⊢
    split at h
    · rename_i hg; rw [if_pos hg]; simpa using words_len r h
    · cases h
theorem words_append : ∀ (a : List Ins) (i : Ins), (words a).2 = true → words (a ++ [i]) = if goodI i then ((words a).1 ++ [wordI i], true) else ((words a).1, false)
  | [], i, _ => by simp [words]
  | x :: a, i, h => by
    unfold words at h
    split at h
    · rename_i hg
      have ih := words_append a i h
      simp only [List.cons_append]
      rw [words, if_pos hg, ih]
      by_cases hi : goodI i = true
      · rw [if_pos hi, if_pos hi]; simp [words, hg]
      · rw [if_neg hi, if_neg hi]; simp [words, hg]
    · cases h
theorem words_prefix : ∀ (a b : List Ins), (words (a ++ b)).2 = true → (words a).2 = true
  | [], _, _ => rfl
  | x :: a, b, h => by
    simp only [List.cons_append] at h
    rw [words] at h ⊢
    split at h
    · rename_i hg; rw [if_pos hg]; exact words_prefix a b h
    · cases h
theorem words_bad : ∀ (a : List Ins) (i : Ins) (b : List Ins), (words a).2 = true → goodI i = false → (words (a ++ i :: b)).2 = false
  | [], i, b, _, hi => by simp [words, hi]
  | x :: a, i, b, h, hi => by
    simp only [List.cons_append]
    rw [words] at h ⊢
    split at h
    · rename_i hg; rw [if_pos hg]; exact words_bad a i b h hi
    · cases h
theorem Bd.fix_op (B : Bd) (p : Ins × Int) : (B.fix p).op = p.1.op := by unfold Bd.fix; split <;> rfl
def tupD (v : Value) (e : Int) : Value := .tuple #[v, .int .i64 e]
/-- what Done's callers see: the words, as one's own slice -/
abbrev DoneK (g0 : G) (r : List Int × Int) (K : Cont) : Prop := ∀ v g' n', Sub g0 g' → OwnS encW 1 none0 g' v r.1 → (∀ l ∈ blks v, g0 l = none) → K (tupD v r.2) g' n'

theorem rDone_spec {fp : List Nat} {lb : Nat} {B : Bd} (hB : RbH g fp lb B) (hok : B.ok) {K : Cont} (hK : DoneK g B.done K) : AC bellowsref21_Builder_Done_id [ptr lb 0] g n K := by
  refine ACalls.fold X0_mono ?_
  rw [← bellowsref21_Builder_Done_eq]
  simp only [bellowsref21_Builder_Done, kNil_p, kPtr_p, Nat.zero_add]
  obtain ⟨sl, sm, h, rfl⟩ := hB
  have nilr : ∀ e : Int, B.done = ([], e) → ∀ g' n', Sub g g' → aRet K (.tuple #[.slice none 0 0, .int .i64 e]) g' n' := by
    intro e he g' n' hs
    refine aRet_of (Sub.refl _) ?_
    have := hK (.slice none 0 0) g' n' hs
    rw [he] at this
    exact this OwnS.nil (by simp [blks, blkOf])
  refine kLd_of h.obj rfl ?_
  cases hbad : B.bad with
  | true => exact kSplit_t rfl (nilr 1 (by unfold Bd.done; rw [if_pos hbad]) _ _ (Sub.refl g))
  | false =>
  refine kSplit_f rfl ?_
  -- all marks set?
  have pl : ∀ (j : Nat) (p : Ins × Int), B.items[j]? = some p → 0 ≤ p.2 → p.2.toNat < B.marks.length := fun j p hp h0 => by
    have := (hok.it p (List.mem_of_getElem? hp)).2.2; omega
  -- the second loop
  have second : (B.items.any (fun p => decide (0 ≤ p.2) && decide (B.marks.getD p.2.toNat 0 < 0)) = false) → ∀ (t : Env) (m : Nat), t 0 = ptr lb 0 → bellowsref21_Builder_Done_j2 AC K t g m := by
    intro hall t m t0
    simp only [bellowsref21_Builder_Done_j2]
    refine lfp_ind (m := B.items.length) (Inv := fun m t g2 n2 => ∃ (j : Nat) (v : Value), m + j = B.items.length ∧ t 0 = ptr lb 0 ∧ t 5 = v ∧ t 6 = .int .i64 (j : Nat) ∧ Sub g g2 ∧ (words ((B.items.take j).map B.fix)).2 = true ∧
      OwnS encW 1 none0 g2 v (words ((B.items.take j).map B.fix)).1 ∧ (∀ l ∈ blks v, g l = none)) ?_ ?_
    · rintro I m t g2 n2 ih ⟨j, v, hm, t0, t5, t6, hs, hw, hv, hfr⟩
      simp only [bellowsref21_Builder_Done_l3, t0, t6, kNil_p, kPtr_p, Nat.zero_add]
      have hobj := hs.live h.obj
      have hl2 := h.hl.mono hs
      have hm2 := h.hm.mono hs
      refine kLd_of hobj rfl (hl2.sl.len ?_)
      rw [kBin_lss]
      have hwl := words_len _ hw
      have hlj : ((B.items.take j).map B.fix).length = min j B.items.length := by rw [List.length_map, List.length_take]
      by_cases hj : j < B.items.length
      · refine kSplit_t (by simpa using hj) (kLd_of hobj rfl ?_)
        have hget : B.items[j]? = some B.items[j] := List.getElem?_eq_getElem hj
        obtain ⟨hop0, hop1, hto⟩ := hok.it _ (List.mem_of_getElem? hget)
        generalize B.items[j] = p at hget hop0 hop1 hto
        have htk : ((B.items.take (j + 1)).map B.fix) = ((B.items.take j).map B.fix) ++ [B.fix p] := by rw [take_add hget]; simp
        refine hl2.sl.idx encT_len hget (fun l o ha => ?_)
        simp only [kPtr_p]
        have ha5 : At g2 l o (encI p.1) := by
          obtain ⟨bs, bk, q1, q2, q3⟩ := ha
          refine ⟨bs, bk, q1, by simp [encT, encI] at q2 ⊢; omega, ?_⟩
          have : (encT p).take 5 = encI p.1 := by simp [encT, encI]
          have q4 := congrArg (List.take 5) (show (bs.drop o).take 6 = encT p from q3)
          rw [List.take_take, this] at q4
          exact q4
        refine ha5.ldN rfl (fun hn => ⟨rfl, kStN_of (upd_same _ _ _) rfl (by simp [encI]) (encI_cell p.1) ?_⟩)
        have e3 : splice [.int .i64 0, .int .i64 0, .int .i64 0, .int .i64 0, .int .i64 0] 0 (encI p.1).toArray.toList = encI p.1 := rfl
        rw [e3]
        have e4 : upd (upd g2 n2 (some (.cells [.int .i64 0, .int .i64 0, .int .i64 0, .int .i64 0, .int .i64 0] .exact))) n2 (some (.cells (encI p.1) .exact)) = upd g2 n2 (some (.cells (encI p.1) .exact)) := by
          funext i; by_cases hi : i = n2
          · subst hi; rw [upd_same, upd_same]
          · rw [upd_ne _ _ hi, upd_ne _ _ hi, upd_ne _ _ hi]
        rw [e4]
        have hs3 : Sub g2 (upd g2 n2 (some (.cells (encI p.1) .exact))) := (Sub.refl g2).new hn _
        have hb3 : upd g2 n2 (some (.cells (encI p.1) .exact)) n2 = some (.cells (encI p.1) .exact) := upd_same _ _ _
        generalize hg3 : upd g2 n2 (some (.cells (encI p.1) .exact)) = g3 at hs3 hb3 ⊢
        -- the rest, once the instruction is in place
        have rest : ∀ (t : Env) (g4 : G) (m4 : Nat), t 0 = ptr lb 0 → t 5 = v → t 6 = .int .i64 (j : Nat) → t 7 = ptr n2 0 → Sub g2 g4 → g4 n2 = some (.cells (encI (B.fix p)) .exact) → bellowsref21_Builder_Done_j4 AC K I t g4 m4 := by
          intro t g4 m4 t0 t5 t6 t7 hs4 hb4
          simp only [bellowsref21_Builder_Done_j4, t7, kPtr_p]
          refine ldI hb4 (rEncode_spec (by rw [Bd.fix_op]; exact hop0) (by rw [Bd.fix_op]; exact hop1) fun g5 n5 hs5 => ?_)
          rw [t5]
          refine kExtract_t [_, _] 0 _ ▸ ?_
          rw [kGet_zero]
          refine kExtract_t [_, _] 1 _ ▸ ?_
          rw [kGet_succ, kGet_zero, kBin_neq]
          by_cases hg : goodI (B.fix p) = true
          · have e : encodeI (B.fix p) = (wordI (B.fix p), 0) := by unfold encodeI; rw [if_pos hg]
            rw [e]
            refine kSplit_f (by simp) ⟨rfl, by simp [reps], fun hn5 => ?_⟩
            have hs6 : Sub g5 (upd g5 n5 (some (.cells (encW (wordI (B.fix p))) .exact))) := (Sub.refl g5).new hn5 _
            have hx6 : Sl encW 1 (upd g5 n5 (some (.cells (encW (wordI (B.fix p))) .exact))) (.slice (some ⟨n5, 0, none⟩) 1 1) [wordI (B.fix p)] := Sl.one rfl (upd_same _ _ _)
            have hs26 := (hs4.trans hs5).trans hs6
            have hv6 := hv.mono hs26
            have hbig := hok.big
            refine own_app (g := upd g5 n5 (some (.cells (encW (wordI (B.fix p))) .exact))) hv6 hx6 encW_cell (by decide) (by rw [hwl, hlj]; simp; omega) (by rw [hwl, hlj]; simp; omega) (by simp) (fun v' g7 n7 ho hk hf => ?_)
            simp only [bellowsref21_Builder_Done_j5]
            show kBin .int .add (t 6) (.int .i64 1) _
            rw [t6, kBin_add, wrap64_of (by omega) (by omega), show ((j : Nat) : Int) + 1 = ((j + 1 : Nat) : Int) by omega]
            have hsub : Sub g g7 := by
              intro l
              cases hgl : g l with
              | none => exact .inl rfl
              | some b => refine .inr (hk l b (hs26.live (hs.live hgl)) (fun hm => ?_)).symm; rw [hfr l hm] at hgl; cases hgl
            refine ih (m - 1) _ _ _ (by omega) ⟨j + 1, v', by omega, t0, rfl, rfl, hsub, ?_, ?_, ?_⟩
            · rw [htk, words_append _ _ hw, if_pos hg]
            · rw [htk, words_append _ _ hw, if_pos hg]; exact ho
            · exact fun l hl => (hs.trans hs26).none (hf l hl)
          · have e : encodeI (B.fix p) = (0, 11) := by unfold encodeI; rw [if_neg hg]
            rw [e]
            refine kSplit_t (by simp) (nilr 11 ?_ _ _ (hs.trans (hs4.trans hs5)))
            unfold Bd.done
            rw [if_neg (by simp [hbad]), if_neg (by simp only [hall]; decide), if_pos]
            have : B.items.map B.fix = (B.items.take j).map B.fix ++ B.fix p :: (B.items.drop (j + 1)).map B.fix := by
              conv => lhs; rw [← List.take_append_drop j B.items, drop_get hget]
              simp
            rw [this]
            exact words_bad _ _ _ hw (by simpa using hg)
        refine kLd_of (hs3.live hobj) rfl ?_
        refine (hl2.mono hs3).sl.idx encT_len hget (fun l' o' ha' => ?_)
        simp only [kPtr_p]
        refine ha'.ld (i := 5) rfl ?_
        rw [kBin_geq]
        by_cases hto0 : 0 ≤ p.2
        · refine kSplit_t (by simpa using hto0) (kLd_of (hs3.live hobj) rfl (kLd_of (hs3.live hobj) rfl ?_))
          refine (hl2.mono hs3).sl.idx encT_len hget (fun l' o' ha' => ?_)
          simp only [kPtr_p]
          refine ha'.ld (i := 5) rfl ?_
          have hlt := pl j p hget hto0
          have em : (Value.int .i64 p.2) = .int .i64 (p.2.toNat : Nat) := by congr 1; omega
          rw [em]
          refine (hm2.mono hs3).sl.idx enc1_len (getD_get hlt) (fun l2 o2 ha2 => ?_)
          simp only [kPtr_p]
          refine ha2.ld (i := 0) rfl (kSt_of hb3 rfl (by simp [encI]) rfl ?_)
          refine rest _ _ _ t0 t5 t6 rfl ?_ ?_
          · rw [← hg3]
            exact ((Sub.refl g2).upd_fresh _ hn).upd_fresh _ hn
          · rw [upd_same]
            have : B.fix p = { p.1 with imm := B.marks.getD p.2.toNat 0 } := by unfold Bd.fix; rw [if_pos hto0]
            rw [this]; rfl
        · refine kSplit_f (by simpa using hto0) (rest _ _ _ t0 t5 t6 rfl hs3 ?_)
          rw [hb3]
          have : B.fix p = p.1 := by unfold Bd.fix; rw [if_neg hto0]
          rw [this]
      · refine kSplit_f (by simpa using hj) ?_
        simp only [bellowsref21_Builder_Done_j6]
        have hje : (B.items.take j) = B.items := List.take_of_length_le (by omega)
        rw [hje] at hw hv hwl hlj
        show kLen (t 5) _
        rw [t5]
        refine hv.sl.len ?_
        have hlw : (words (B.items.map B.fix)).1.length = B.items.length := by rw [hwl, List.length_map]
        rw [hlw, kBin_gtr]
        have h12 : B.bad = false ∧ True := ⟨hbad, trivial⟩
        have hd : B.done = if 4096 < B.items.length then ([], 3) else ((words (B.items.map B.fix)).1, 0) := by
          unfold Bd.done
          rw [if_neg (by simp [hbad]), if_neg (by simp only [hall]; decide), if_neg (by rw [hw]; decide)]
        by_cases h4 : 4096 < B.items.length
        · exact kSplit_t (by simp; omega) (nilr 3 (by rw [hd, if_pos h4]) _ _ hs)
        · refine kSplit_f (by simp; omega) (aRet_of (Sub.refl _) ?_)
          have := hK v g2 n2 hs
          rw [hd, if_neg h4] at this
          show K (.tuple #[t 5, .int .i64 0]) g2 n2
          rw [t5]
          exact this hv hfr
    · exact ⟨0, .slice none 0 0, by omega, t0, rfl, rfl, Sub.refl g, rfl, OwnS.nil, by simp [blks, blkOf]⟩
  refine lfp_ind (m := B.items.length) (Inv := fun m t g2 n2 => ∃ (j : Nat), m + j = B.items.length ∧ g2 = g ∧ t 0 = ptr lb 0 ∧ t 4 = .int .i64 (j : Nat) ∧ ∀ p ∈ B.items.take j, (decide (0 ≤ p.2) && decide (B.marks.getD p.2.toNat 0 < 0)) = false) ?_ ?_
  · rintro I m t g2 n2 ih ⟨j, hm, rfl, t0, t4, hall⟩
    simp only [bellowsref21_Builder_Done_l1, t0, t4, kNil_p, kPtr_p, Nat.zero_add]
    refine kLd_of h.obj rfl (h.hl.sl.len ?_)
    rw [kBin_lss]
    by_cases hj : j < B.items.length
    · refine kSplit_t (by simpa using hj) (kLd_of h.obj rfl ?_)
      have hget : B.items[j]? = some B.items[j] := List.getElem?_eq_getElem hj
      generalize B.items[j] = p at hget
      refine h.hl.sl.idx encT_len hget (fun l' o' ha' => ?_)
      simp only [kPtr_p]
      refine ha'.ld (i := 5) rfl ?_
      rw [kBin_geq]
      have hbig := hok.big
      have go : (decide (0 ≤ p.2) && decide (B.marks.getD p.2.toNat 0 < 0)) = false → ∀ (t' : Env) (n' : Nat), t' 0 = ptr lb 0 → t' 4 = .int .i64 ((j + 1 : Nat) : Int) → I t' g2 n' := fun hp t' n' h0 h4 =>
        ih (m - 1) _ _ _ (by omega) ⟨j + 1, by omega, rfl, h0, h4, fun q hq => by
          rw [take_add hget] at hq
          rcases List.mem_append.1 hq with hq | hq
          · exact hall q hq
          · simp at hq; subst hq; exact hp⟩
      by_cases hto0 : 0 ≤ p.2
      · refine kSplit_t (by simpa using hto0) (kLd_of h.obj rfl (kLd_of h.obj rfl ?_))
        refine h.hl.sl.idx encT_len hget (fun l' o' ha' => ?_)
        simp only [kPtr_p]
        refine ha'.ld (i := 5) rfl ?_
        have hlt := pl j p hget hto0
        have em : (Value.int .i64 p.2) = .int .i64 (p.2.toNat : Nat) := by congr 1; omega
        rw [em]
        refine h.hm.sl.idx enc1_len (getD_get hlt) (fun l2 o2 ha2 => ?_)
        simp only [kPtr_p]
        refine ha2.ld (i := 0) rfl ?_
        rw [kBin_lss]
        by_cases hneg : B.marks.getD p.2.toNat 0 < 0
        · refine kSplit_t (by simpa using hneg) (nilr 20 ?_ _ _ (Sub.refl _))
          unfold Bd.done
          rw [if_neg (by simp [hbad]), if_pos]
          exact List.any_eq_true.2 ⟨p, List.mem_of_getElem? hget, by simp [hto0]; simpa using hneg⟩
        · refine kSplit_f (by simpa using hneg) ?_
          rw [kBin_add, wrap64_of (by omega) (by omega), show ((j : Nat) : Int) + 1 = ((j + 1 : Nat) : Int) by omega]
          exact go (by simp; intro _; simpa using hneg) _ _ t0 rfl
      · refine kSplit_f (by simpa using hto0) ?_
        rw [kBin_add, wrap64_of (by omega) (by omega), show ((j : Nat) : Int) + 1 = ((j + 1 : Nat) : Int) by omega]
        exact go (by simp [hto0]) _ _ t0 rfl
    · refine kSplit_f (by simpa using hj) (second ?_ _ _ t0)
      rw [List.take_of_length_le (by omega)] at hall
      rw [List.any_eq_false]
      intro p hp; rw [hall p hp]; decide
  · exact ⟨0, by omega, rfl, rfl, rfl, by simp⟩
end Go.Proofs.YtecojalpbppfeaaGreat.Gen

namespace Go.Proofs.YtecojalpbppfeaaGreat.Gen
open Go Go.Proofs.YtecojalpbppfeaaGreat.Abs Go.RowKit
variable {g : G} {n : Nat}
@[simp] theorem kBin_snil {m c : Nat} {K : Value → Prop} : kBin .slice .eql (.slice none m c) (.slice none 0 0) K = K (.bool true) := rfl
@[simp] theorem kBin_ssome {a : Addr} {m c : Nat} {K : Value → Prop} : kBin .slice .eql (.slice (some a) m c) (.slice none 0 0) K = K (.bool false) := rfl
theorem CloneI_spec {v : Value} {xs : List Ins} (hx : Sl encI 5 g v xs) (hsz : xs.length ≤ 1000000) {K : Cont} (hK : ∀ v' g' n', Sub g g' → OwnS encI 5 none0 g' v' xs → (0 < xs.length → ∀ l ∈ blks v', g l = none) → K v' g' n') :
    AC slices_Clone_api_Ins_api_Ins_id [v] g n K := by
  refine ACalls.fold X0_mono ?_
  rw [← slices_Clone_api_Ins_api_Ins_eq]
  simp only [slices_Clone_api_Ins_api_Ins]
  obtain ⟨a, c, rfl, hl, ha, h⟩ := id hx
  cases a with
  | none =>
    have h0 : xs.length = 0 := by
      rcases Nat.eq_zero_or_pos xs.length with h0 | h0
      · exact h0
      · obtain ⟨l, o, bs, bk, e, _⟩ := h h0; cases e
    have hxs : xs = [] := List.eq_nil_of_length_eq_zero h0
    subst hxs
    rw [kBin_snil]
    exact kSplit_t rfl (aRet_of (Sub.refl _) (hK _ _ _ (Sub.refl _) OwnS.nil (fun h => by simp at h)))
  | some a =>
    rw [kBin_ssome]
    refine kSplit_f rfl (fun hn => ?_)
    have hs := (Sub.refl g).new hn (some (.cells (reps 0 [.int .i64 0, .int .i64 0, .int .i64 0, .int .i64 0, .int .i64 0]) .exact))
    generalize upd g n (some (.cells (reps 0 [.int .i64 0, .int .i64 0, .int .i64 0, .int .i64 0, .int .i64 0]) .exact)) = g1 at hs
    refine OwnS.append (g0 := g) (xs := ([] : List Ins)) (v := .slice (some ⟨n, 0, none⟩) 0 0) OwnS.empty hs (hx.mono hs) encI_cell (by decide) (by simp; omega) (by simp; omega) (fun v' g' n' h3 h4 h5 h6 => aRet_of (Sub.refl _) ?_)
    rw [List.nil_append] at h4
    exact hK v' g' n' h3 (OwnS.base h4 (none0_sub g)) (fun hp l hl => hs.none (h6 hp l (mem_blks.1 hl)))
def fixAt (ms : List Int) (L : List Ins) (p : Int × Int) : List Ins := match L[p.1.toNat]? with | some i => L.set p.1.toNat { i with imm := ms.getD p.2.toNat 0 } | none => L
theorem fixAt_some {ms : List Int} {L : List Ins} {p : Int × Int} {i : Ins} (h : L[p.1.toNat]? = some i) : fixAt ms L p = L.set p.1.toNat { i with imm := ms.getD p.2.toNat 0 } := by unfold fixAt; rw [h]
theorem fixAt_len (ms : List Int) (L : List Ins) (p : Int × Int) : (fixAt ms L p).length = L.length := by unfold fixAt; split <;> simp
theorem fold_len (ms : List Int) : ∀ (js : List (Int × Int)) (L : List Ins), (js.foldl (fixAt ms) L).length = L.length
  | [], _ => rfl
  | p :: js, L => by rw [List.foldl_cons, fold_len ms js, fixAt_len]
theorem fold_fix (B : Bd) : ∀ (its : List (Ins × Int)) (pre : List Ins), (jmps pre.length its).foldl (fixAt B.marks) (pre ++ its.map (·.1)) = pre ++ its.map B.fix
  | [], pre => by simp [jmps]
  | (i, to) :: its, pre => by
    have key : ∀ x : Ins, (jmps (pre.length + 1) its).foldl (fixAt B.marks) (pre ++ x :: its.map (·.1)) = pre ++ x :: its.map B.fix := by
      intro x
      have := fold_fix B its (pre ++ [x])
      simpa using this
    simp only [jmps, List.map_cons]
    by_cases h : 0 ≤ to
    · rw [if_pos h, List.foldl_cons]
      have e : fixAt B.marks (pre ++ i :: its.map (·.1)) ((pre.length : Int), to) = pre ++ { i with imm := B.marks.getD to.toNat 0 } :: its.map (·.1) := by
        rw [fixAt_some (i := i) (by simp)]
        simp
      rw [e, key]
      have : B.fix (i, to) = { i with imm := B.marks.getD to.toNat 0 } := by unfold Bd.fix; rw [if_pos h]
      rw [this]
    · rw [if_neg h, key]
      have : B.fix (i, to) = i := by unfold Bd.fix; rw [if_neg h]
      rw [this]
theorem mem_jmps : ∀ (k : Nat) (its : List (Ins × Int)) (p : Int × Int), p ∈ jmps k its → 0 ≤ p.1 ∧ p.1.toNat < k + its.length ∧ ∃ i, (i, p.2) ∈ its ∧ 0 ≤ p.2
  | k, [], p, h => by simp [jmps] at h
  | k, (i, to) :: its, p, h => by
    simp only [jmps] at h
    have tail : p ∈ jmps (k + 1) its → 0 ≤ p.1 ∧ p.1.toNat < k + (its.length + 1) ∧ ∃ j, (j, p.2) ∈ (i, to) :: its ∧ 0 ≤ p.2 := fun h => by
      obtain ⟨h1, h2, j, h3, h4⟩ := mem_jmps (k + 1) its p h
      exact ⟨h1, by omega, j, by simp [h3], h4⟩
    split at h
    · rename_i h0
      rcases List.mem_cons.1 h with rfl | h
      · exact ⟨by simp, by simp, i, by simp, h0⟩
      · exact tail h
    · exact tail h
theorem jmps_of_mem : ∀ (k : Nat) (its : List (Ins × Int)) (i : Ins) (to : Int), (i, to) ∈ its → 0 ≤ to → ∃ a, (a, to) ∈ jmps k its
  | k, (i', to') :: its, i, to, h, h0 => by
    simp only [jmps]
    rcases List.mem_cons.1 h with h | h
    · cases h; rw [if_pos h0]; exact ⟨(k : Int), by simp⟩
    · obtain ⟨a, ha⟩ := jmps_of_mem (k + 1) its i to h h0
      split
      · exact ⟨a, by simp [ha]⟩
      · exact ⟨a, ha⟩
theorem jmps_len : ∀ (k : Nat) (its : List (Ins × Int)), (jmps k its).length ≤ its.length
  | _, [] => by simp [jmps]
  | k, (i, to) :: its => by
    have := jmps_len (k + 1) its
    simp only [jmps]; split <;> simp <;> omega
theorem get_lt {α : Type} {xs : List α} {i : Nat} (h : i < xs.length) : ∃ x, xs[i]? = some x := ⟨_, List.getElem?_eq_getElem h⟩
theorem Done_spec {fp : List Nat} {lb : Nat} {B : Bd} (hB : BdH g fp lb B) (hok : B.ok) {K : Cont} (hK : DoneK g B.done K) : AC emit_Builder_Done_id [ptr lb 0] g n K := by
  refine ACalls.fold X0_mono ?_
  rw [← emit_Builder_Done_eq]
  simp only [emit_Builder_Done, kBin_p_eql, kNil_p, kPtr_p, Nat.zero_add]
  obtain ⟨sl, sm, sj, h, rfl⟩ := hB
  have nilr : ∀ e : Int, B.done = ([], e) → ∀ g' n', Sub g g' → aRet K (.tuple #[.slice none 0 0, .int .i64 e]) g' n' := by
    intro e he g' n' hs
    refine aRet_of (Sub.refl _) ?_
    have := hK (.slice none 0 0) g' n' hs
    rw [he] at this
    exact this OwnS.nil (by simp [blks, blkOf])
  have hbig := hok.big
  refine kSplit_f rfl (kLd_of h.obj rfl ?_)
  cases hbad : B.bad with
  | true => exact kSplit_t rfl (nilr 1 (by unfold Bd.done; rw [if_pos hbad]) _ _ (Sub.refl g))
  | false =>
  refine kSplit_f rfl (kLd_of h.obj rfl ?_)
  have hml : (B.items.map (·.1)).length = B.items.length := List.length_map ..
  refine CloneI_spec h.hl.sl (by omega) (fun vc g1 n1 hs1 ho1 hf1 => ?_)
  refine kLd_of (hs1.live h.obj) rfl (h.hj.sl.len ?_)
  -- encoding
  have second : (B.items.any (fun p => decide (0 ≤ p.2) && decide (B.marks.getD p.2.toNat 0 < 0)) = false) → ∀ (t : Env) (g : G) (m : Nat) (gb : G), Sub gb g → (∀ g' n' e, B.done = ([], e) → Sub gb g' → aRet K (.tuple #[.slice none 0 0, .int .i64 e]) g' n') → DoneK gb B.done K → t 4 = vc → OwnS encI 5 none0 g vc (B.items.map B.fix) → emit_Builder_Done_j2 AC K t g m := by
    intro hall t g1 m gb hb1 nilr hK t4 hvc
    simp only [emit_Builder_Done_j2, t4]
    have hfl : (B.items.map B.fix).length = B.items.length := List.length_map ..
    refine hvc.sl.len ?_
    rw [hfl]
    refine lfp_ind (m := B.items.length) (Inv := fun m t g2 n2 => ∃ (j : Nat) (v : Value), m + j = B.items.length ∧ t 57 = vc ∧ t 58 = .int .i64 (B.items.length : Nat) ∧ t 7 = v ∧ t 59 = .int .i64 (j : Nat) ∧ Sub gb g2 ∧ Sl encI 5 g2 vc (B.items.map B.fix) ∧ (words ((B.items.take j).map B.fix)).2 = true ∧
      OwnS encW 1 none0 g2 v (words ((B.items.take j).map B.fix)).1 ∧ (∀ l ∈ blks v, gb l = none) ∧ (∀ l ∈ blks v, l ∉ blks vc)) ?_ ?_
    · rintro I m t g2 n2 ih ⟨j, v, hm, t57, t58, t7, t59, hs, hc, hw, hv, hfr, hap⟩
      simp only [emit_Builder_Done_l3, t57, t58, t59, kBin_lss]
      have hwl := words_len _ hw
      have hlj : ((B.items.take j).map B.fix).length = min j B.items.length := by rw [List.length_map, List.length_take]
      by_cases hj : j < B.items.length
      · refine kSplit_t (by simpa using hj) ?_
        obtain ⟨p, hget⟩ := get_lt hj
        obtain ⟨hop0, hop1, hto⟩ := hok.it _ (List.mem_of_getElem? hget)
        have htk : ((B.items.take (j + 1)).map B.fix) = ((B.items.take j).map B.fix) ++ [B.fix p] := by rw [take_add hget]; simp
        have hgf : (B.items.map B.fix)[j]? = some (B.fix p) := by rw [List.getElem?_map, hget]; rfl
        refine hc.idx encI_len hgf (fun l o ha => ?_)
        simp only [kPtr_p]
        refine ha.ldN rfl (fun hn => ⟨rfl, kStN_of (upd_same _ _ _) rfl (by simp [encI]) (encI_cell (B.fix p)) ?_⟩)
        have e3 : splice [.int .i64 0, .int .i64 0, .int .i64 0, .int .i64 0, .int .i64 0] 0 (encI (B.fix p)).toArray.toList = encI (B.fix p) := rfl
        rw [e3]
        have hs3 : Sub g2 (upd (upd g2 n2 (some (.cells [.int .i64 0, .int .i64 0, .int .i64 0, .int .i64 0, .int .i64 0] .exact))) n2 (some (.cells (encI (B.fix p)) .exact))) := ((Sub.refl g2).upd_fresh _ hn).upd_fresh _ hn
        refine ldI (upd_same _ _ _) (Encode_spec (by rw [Bd.fix_op]; exact hop0) (by rw [Bd.fix_op]; exact hop1) fun g5 n5 hs5 => ?_)
        have hs25 := hs3.trans hs5
        refine kExtract_t [_, _] 0 _ ▸ ?_
        rw [kGet_zero]
        refine kExtract_t [_, _] 1 _ ▸ ?_
        rw [kGet_succ, kGet_zero, kBin_neq]
        by_cases hg : goodI (B.fix p) = true
        · have e : encodeI (B.fix p) = (wordI (B.fix p), 0) := by unfold encodeI; rw [if_pos hg]
          rw [e]
          refine kSplit_f (by simp) ⟨rfl, by simp [reps], fun hn5 => ?_⟩
          have hs6 : Sub g5 (upd g5 n5 (some (.cells (encW (wordI (B.fix p))) .exact))) := (Sub.refl g5).new hn5 _
          have hx6 : Sl encW 1 (upd g5 n5 (some (.cells (encW (wordI (B.fix p))) .exact))) (.slice (some ⟨n5, 0, none⟩) 1 1) [wordI (B.fix p)] := Sl.one rfl (upd_same _ _ _)
          have hs26 := hs25.trans hs6
          have hv6 := hv.mono hs26
          rw [t7]
          refine own_app (g := upd g5 n5 (some (.cells (encW (wordI (B.fix p))) .exact))) hv6 hx6 encW_cell (by decide) (by rw [hwl, hlj]; simp; omega) (by rw [hwl, hlj]; simp; omega) (by simp) (fun v' g7 n7 ho hk hf => ?_)
          rw [kBin_add, wrap64_of (by omega) (by omega), show ((j : Nat) : Int) + 1 = ((j + 1 : Nat) : Int) by omega]
          have hsub : Sub gb g7 := by
            intro l
            cases hgl : gb l with
            | none => exact .inl rfl
            | some b => refine .inr (hk l b (hs26.live (hs.live hgl)) (fun hm => ?_)).symm; rw [hfr l hm] at hgl; cases hgl
          refine ih (m - 1) _ _ _ (by omega) ⟨j + 1, v', by omega, t57, t58, rfl, rfl, hsub, ?_, ?_, ?_, ?_, ?_⟩
          · exact hc.keep (fun l b hl hb => hk l b (hs26.live hl) (fun hv => hap l hv (mem_blks.2 hb)))
          · rw [htk, words_append _ _ hw, if_pos hg]
          · rw [htk, words_append _ _ hw, if_pos hg]; exact ho
          · exact fun l hl => (hs.trans hs26).none (hf l hl)
          · intro l hl hcl
            have hnone := hs26.none (hf l hl)
            obtain ⟨a, cc, rfl, _, _, hh⟩ := hc
            obtain ⟨l', o', bs, bk, ha', hg', _⟩ := hh (by rw [hfl]; omega)
            subst ha'
            have := mem_blks.1 hcl
            simp [blkOf] at this; subst this
            rw [hnone] at hg'; cases hg'
        · have e : encodeI (B.fix p) = (0, 11) := by unfold encodeI; rw [if_neg hg]
          rw [e]
          refine kSplit_t (by simp) (nilr _ _ 11 ?_ (hs.trans hs25))
          unfold Bd.done
          rw [if_neg (by simp [hbad]), if_neg (by simp only [hall]; decide), if_pos]
          have : B.items.map B.fix = (B.items.take j).map B.fix ++ B.fix p :: (B.items.drop (j + 1)).map B.fix := by
            conv => lhs; rw [← List.take_append_drop j B.items, drop_get hget]
            simp
          rw [this]
          exact words_bad _ _ _ hw (by simpa using hg)
      · refine kSplit_f (by simpa using hj) ?_
        simp only [emit_Builder_Done_j4]
        have hje : (B.items.take j) = B.items := List.take_of_length_le (by omega)
        rw [hje] at hw hv hwl hlj
        show kLen (t 7) _
        rw [t7]
        refine hv.sl.len ?_
        have hlw : (words (B.items.map B.fix)).1.length = B.items.length := by rw [hwl, List.length_map]
        rw [hlw, kBin_gtr]
        have hd : B.done = if 4096 < B.items.length then ([], 3) else ((words (B.items.map B.fix)).1, 0) := by
          unfold Bd.done
          rw [if_neg (by simp [hbad]), if_neg (by simp only [hall]; decide), if_neg (by rw [hw]; decide)]
        by_cases h4 : 4096 < B.items.length
        · exact kSplit_t (by simp; omega) (nilr _ _ 3 (by rw [hd, if_pos h4]) hs)
        · refine kSplit_f (by simp; omega) (aRet_of (Sub.refl _) ?_)
          have := hK v g2 n2 hs
          rw [hd, if_neg h4] at this
          show K (.tuple #[t 7, .int .i64 0]) g2 n2
          rw [t7]
          exact this hv hfr
    · exact ⟨0, .slice none 0 0, by omega, rfl, rfl, rfl, rfl, hb1, hvc.sl, rfl, OwnS.nil, by simp [blks, blkOf], by simp [blks, blkOf]⟩
  refine lfp_ind (m := (jmps 0 B.items).length) (Inv := fun m t g2 n2 => ∃ (j : Nat), m + j = (jmps 0 B.items).length ∧ Sub g g2 ∧ t 0 = ptr lb 0 ∧ t 4 = vc ∧ t 28 = sj ∧ t 29 = .int .i64 ((jmps 0 B.items).length : Nat) ∧ t 30 = .int .i64 (j : Nat) ∧
    OwnS encI 5 none0 g2 vc (((jmps 0 B.items).take j).foldl (fixAt B.marks) (B.items.map (·.1))) ∧ ∀ p ∈ (jmps 0 B.items).take j, ¬ B.marks.getD p.2.toNat 0 < 0) ?_ ?_
  · rintro I m t g2 n2 ih ⟨j, hm, hs, t0, t4, t28, t29, t30, hvc, hall⟩
    simp only [emit_Builder_Done_l1, t0, t4, t28, t29, t30, kBin_lss, kNil_p, kPtr_p, Nat.zero_add]
    have hjl := jmps_len 0 B.items
    by_cases hj : j < (jmps 0 B.items).length
    · refine kSplit_t (by simpa using hj) ?_
      obtain ⟨p, hget⟩ := get_lt hj
      have hpm := List.mem_of_getElem? hget
      obtain ⟨hp0, hp1, i0, hi0, hto0⟩ := mem_jmps 0 B.items p hpm
      have hto1 : p.2.toNat < B.marks.length := by have := (hok.it _ hi0).2.2; omega
      refine (h.hj.mono hs).sl.idx encJ_len hget (fun l o ha => ?_)
      simp only [kPtr_p]
      refine ha.ldN rfl (fun hn => ⟨rfl, kStN_of (upd_same _ _ _) rfl (by simp [encJ]) (encJ_cell p) ?_⟩)
      have e3 : splice [.int .i64 0, .int .i64 0] 0 (encJ p).toArray.toList = encJ p := rfl
      rw [e3]
      have hs3 : Sub g2 (upd (upd g2 n2 (some (.cells [.int .i64 0, .int .i64 0] .exact))) n2 (some (.cells (encJ p) .exact))) := ((Sub.refl g2).upd_fresh _ hn).upd_fresh _ hn
      have hb3 : (upd (upd g2 n2 (some (.cells [.int .i64 0, .int .i64 0] .exact))) n2 (some (.cells (encJ p) .exact))) n2 = some (.cells (encJ p) .exact) := upd_same _ _ _
      generalize (upd (upd g2 n2 (some (.cells [.int .i64 0, .int .i64 0] .exact))) n2 (some (.cells (encJ p) .exact))) = g3 at hs3 hb3
      have hsg := hs.trans hs3
      refine kLd_of (hsg.live h.obj) rfl (kLd_of hb3 rfl ?_)
      have em : (Value.int .i64 p.2) = .int .i64 (p.2.toNat : Nat) := by congr 1; omega
      rw [em]
      refine (h.hm.mono hsg).sl.idx enc1_len (getD_get hto1) (fun l2 o2 ha2 => ?_)
      simp only [kPtr_p]
      refine ha2.ld (i := 0) rfl ?_
      rw [kBin_lss]
      by_cases hneg : B.marks.getD p.2.toNat 0 < 0
      · refine kSplit_t (by simpa using hneg) (nilr 20 ?_ _ _ hsg)
        unfold Bd.done
        rw [if_neg (by simp [hbad]), if_pos]
        exact List.any_eq_true.2 ⟨_, hi0, by simp [hto0]; simpa using hneg⟩
      · refine kSplit_f (by simpa using hneg) (kLd_of hb3 rfl (kLd_of (hsg.live h.obj) rfl (kLd_of hb3 rfl ?_)))
        rw [em]
        refine (h.hm.mono hsg).sl.idx enc1_len (getD_get hto1) (fun l3 o3 ha3 => ?_)
        simp only [kPtr_p]
        refine ha3.ld (i := 0) rfl ?_
        have hLlen : (((jmps 0 B.items).take j).foldl (fixAt B.marks) (B.items.map (·.1))).length = B.items.length := by rw [fold_len, hml]
        have hfold : (((jmps 0 B.items).take (j + 1)).foldl (fixAt B.marks) (B.items.map (·.1))) = fixAt B.marks (((jmps 0 B.items).take j).foldl (fixAt B.marks) (B.items.map (·.1))) p := by rw [take_add hget, List.foldl_append]; rfl
        generalize hL : ((jmps 0 B.items).take j).foldl (fixAt B.marks) (B.items.map (·.1)) = L at *
        obtain ⟨x, hx⟩ := get_lt (xs := L) (i := p.1.toNat) (by rw [hLlen]; omega)
        have ea : (Value.int .i64 p.1) = .int .i64 (p.1.toNat : Nat) := by congr 1; omega
        rw [ea]
        refine own_put (c := 4) encI_len (hvc.mono hs3) hx (y := { x with imm := B.marks.getD p.2.toNat 0 }) (by decide) rfl rfl (fun q l o ho hl hm4 => ?_)
        rw [kBin_add, wrap64_of (by omega) (by omega), show ((j : Nat) : Int) + 1 = ((j + 1 : Nat) : Int) by omega]
        have hset : L.set p.1.toNat { x with imm := B.marks.getD p.2.toNat 0 } = fixAt B.marks L p := by
          rw [fixAt_some hx]
        rw [hset] at hm4 ⊢
        refine ih (m - 1) _ _ _ (by omega) ⟨j + 1, by omega, ?_, t0, t4, t28, t29, rfl, ?_, ?_⟩
        · exact hsg.trans (Sub.refl _) |> fun s => by
            intro k
            by_cases hk : k = l
            · subst hk; exact .inl (hf1 (by rw [hml]; omega) k hl)
            · rw [upd_ne _ _ hk]; exact s k
        · rw [hfold]; exact hm4
        · intro q hq
          rw [take_add hget] at hq
          rcases List.mem_append.1 hq with hq | hq
          · exact hall q hq
          · simp at hq; subst hq; exact hneg
    · rw [List.take_of_length_le (by omega)] at hvc hall
      have hff := fold_fix B B.items []
      simp only [List.length_nil, List.nil_append] at hff
      rw [hff] at hvc
      refine kSplit_f (by simpa using hj) (second ?_ _ _ _ g hs (fun g' n' e he hsg => nilr e he g' n' hsg) hK t4 hvc)
      rw [List.any_eq_false]
      intro p hp hc
      simp only [Bool.and_eq_true, decide_eq_true_eq] at hc
      obtain ⟨a, ha⟩ := jmps_of_mem 0 B.items p.1 p.2 hp hc.1
      exact hall _ ha hc.2
  · exact ⟨0, by omega, hs1, rfl, rfl, rfl, rfl, rfl, ho1, by simp⟩
end Go.Proofs.YtecojalpbppfeaaGreat.Gen

namespace Go.Proofs.YtecojalpbppfeaaGreat.Gen
open Go Go.Proofs.YtecojalpbppfeaaGreat.Abs Go.RowKit
variable {g : G} {n : Nat}
theorem fillI {z : List (Nat × Option Nat × Value)} (i : Ins) (K : List Value → Prop) (h : z = [(0, none, .int .i64 i.op), (1, none, .int .i64 i.a), (2, none, .int .i64 i.b)]) (hc : i.c = 0) (hi : i.imm = 0) (k : K (encI i)) :
    kFill [(.int .i64 0), (.int .i64 0), (.int .i64 0), (.int .i64 0), (.int .i64 0)] z K := by
  subst h
  refine ⟨rfl, by simp, rfl, by simp, rfl, by simp, ?_⟩
  have : encI i = [.int .i64 i.op, .int .i64 i.a, .int .i64 i.b, .int .i64 0, .int .i64 0] := by simp [encI, hc, hi]
  rw [this] at k; exact k
theorem fill3 (a b c : Ins) (K : List Value → Prop) (k : K (([a, b, c].map encI).flatten)) : kFill (reps 3 [(.int .i64 0), (.int .i64 0), (.int .i64 0), (.int .i64 0), (.int .i64 0)]) [(0, (some 5), .agg (encI a).toArray), (5, (some 5), .agg (encI b).toArray), (10, (some 5), .agg (encI c).toArray)] K :=
  ⟨rfl, by simp [reps], rfl, by simp [reps, splice, encI_len], rfl, by simp [reps, splice, encI_len], k⟩
theorem fill5 (a b c d e : Ins) (K : List Value → Prop) (k : K (([a, b, c, d, e].map encI).flatten)) : kFill (reps 5 [(.int .i64 0), (.int .i64 0), (.int .i64 0), (.int .i64 0), (.int .i64 0)]) [(0, (some 5), .agg (encI a).toArray), (5, (some 5), .agg (encI b).toArray), (10, (some 5), .agg (encI c).toArray), (15, (some 5), .agg (encI d).toArray), (20, (some 5), .agg (encI e).toArray)] K :=
  ⟨rfl, by simp [reps], rfl, by simp [reps, splice, encI_len], rfl, by simp [reps, splice, encI_len], rfl, by simp [reps, splice, encI_len], rfl, by simp [reps, splice, encI_len], k⟩
theorem sl_lit {l : Nat} {xs : List Ins} {bk : BK} (h : g l = some (.cells (xs.map encI).flatten bk)) (m : Nat) (hm : m = xs.length) (c : Nat) : Sl encI 5 g (.slice (some ⟨l, 0, none⟩) m c) xs := by
  subst hm; exact Rd.lit h (flat_len encI 5 encI_len xs)
def liI (r x : Int) : Ins := ⟨1, r, 0, 0, IntKind.i64.wrap x⟩
theorem Bd.add_n (B : Bd) (l : List Ins) : (B.add l).items.length = B.items.length + l.length ∧ (B.add l).marks = B.marks := by simp [Bd.add]
theorem Bd.here_n (B : Bd) (m : Int) : (B.here m).items = B.items ∧ (B.here m).marks.length = B.marks.length := by unfold Bd.here; split <;> simp
theorem Bd.jump_n (B : Bd) (i : Ins) (m : Int) : (B.jump i m).items.length ≤ B.items.length + 1 ∧ (B.jump i m).marks = B.marks := by unfold Bd.jump; split <;> simp
theorem Bd.ok_add {B : Bd} (h : B.ok) {l : List Ins} (hl : ∀ i ∈ l, 0 ≤ i.op ∧ i.op ≤ 22) (hb : B.items.length + l.length ≤ 1000000) : (B.add l).ok := by
  refine ⟨fun p hp => ?_, by rw [(Bd.add_n B l).1]; exact hb⟩
  simp only [Bd.add, List.mem_append, List.mem_map] at hp
  rcases hp with hp | ⟨i, hi, rfl⟩
  · exact h.it p hp
  · exact ⟨(hl i hi).1, (hl i hi).2, by simp [Bd.add]; omega⟩
theorem Bd.ok_here {B : Bd} (h : B.ok) (m : Int) : (B.here m).ok := by
  obtain ⟨h1, h2⟩ := Bd.here_n B m
  exact ⟨fun p hp => by rw [h1] at hp; rw [h2]; exact h.it p hp, by rw [h1]; exact h.big⟩
theorem Bd.ok_mark {B : Bd} (h : B.ok) : B.mark.ok := ⟨fun p hp => by have := h.it p hp; simp [Bd.mark]; omega, h.big⟩
theorem Bd.ok_jump {B : Bd} (h : B.ok) {i : Ins} (m : Int) (hb : B.items.length < 1000000) : (B.jump i m).ok := by
  unfold Bd.jump
  split
  · rename_i hc
    refine ⟨fun p hp => ?_, by simp; omega⟩
    simp only [List.mem_append, List.mem_singleton] at hp
    rcases hp with hp | rfl
    · exact h.it p hp
    · exact ⟨by simp; omega, by simp; omega, by simp; omega⟩
  · exact ⟨h.it, h.big⟩
theorem dis_lit {fp : List Nat} {lb m c : Nat} {B : Bd} (hB : RbH g fp lb B) (hn : g n = none) : ∀ l, blkOf (.slice (some ⟨n, 0, none⟩) m c) = some l → l ∉ fp := by
  intro l hl hf
  simp [blkOf] at hl; subst hl
  obtain ⟨b, hb⟩ := hB.live _ hf
  rw [hn] at hb; cases hb
end Go.Proofs.YtecojalpbppfeaaGreat.Gen

namespace Go.Proofs.YtecojalpbppfeaaGreat.Gen
open Go Go.Proofs.YtecojalpbppfeaaGreat.Abs Go.RowKit
variable {g : G} {n : Nat}
theorem Words_spec {v w : Value} {xs ys : List Int} (hv : Sl encW 1 g v xs) (hw : Sl encW 1 g w ys) (hlen : xs.length < 1000000) {K : Cont}
    (hK : ∀ n', K (.bool (decide (xs = ys))) g n') : AC bellowskeep_Words_id [v, w] g n K := by
  refine ACalls.fold X0_mono ?_
  rw [← bellowskeep_Words_eq]
  simp only [bellowskeep_Words]
  refine hv.len (hw.len ?_)
  simp only [kBin_neq, kSplit_b, decide_eq_true_eq, decide_eq_false_iff_not]
  refine ⟨fun h => aRet_of (Sub.refl _) ?_, fun h => ?_⟩
  · have : xs ≠ ys := fun e => h (by rw [e])
    simpa [this] using hK n
  have hl : xs.length = ys.length := by omega
  refine lfp_ind (fun m t g' n' => g' = g ∧ ∃ i : Nat, m = xs.length - i ∧ i ≤ xs.length ∧ t 0 = v ∧ t 1 = w ∧ t 5 = .int .i64 i ∧ xs.take i = ys.take i) ?_
    (m := xs.length) ⟨rfl, 0, by simp, by simp, rfl, rfl, rfl, rfl⟩
  rintro I m t g1 n1 hI ⟨rfl, i, hm, hi, h0, h1, h5, hp⟩
  simp only [bellowskeep_Words_l1, h0, h1, h5]
  refine hv.len ?_
  simp only [kBin_lss, kSplit_b, decide_eq_true_eq, decide_eq_false_iff_not]
  refine ⟨fun hlt => ?_, fun hge => ?_⟩
  · have hlt : i < xs.length := by omega
    refine hv.idx encW_len (List.getElem?_eq_getElem hlt) (fun l o ha => ?_)
    simp only [kPtr_p]
    refine ha.ld (i := 0) rfl ?_
    refine hw.idx encW_len (List.getElem?_eq_getElem (hl ▸ hlt)) (fun l o ha => ?_)
    simp only [kPtr_p]
    refine ha.ld (i := 0) rfl ?_
    simp only [kBin_neq, kSplit_b, decide_eq_true_eq, decide_eq_false_iff_not, kBin_add]
    refine ⟨fun h => aRet_of (Sub.refl _) ?_, fun h => ?_⟩
    · have : xs ≠ ys := fun e => h (by subst e; rfl)
      simpa [this] using hK n1
    · rw [wrapNat (by omega)]
      refine hI (xs.length - (i + 1)) _ _ _ (by omega) ⟨rfl, i + 1, rfl, by omega, h0, h1, rfl, ?_⟩
      rw [List.take_add_one, List.take_add_one, List.getElem?_eq_getElem hlt, List.getElem?_eq_getElem (hl ▸ hlt), hp]
      have : xs[i] = ys[i] := Classical.byContradiction h
      simp [this]
  · have : i = xs.length := by omega
    subst this
    rw [List.take_length, hl, List.take_length] at hp
    exact aRet_of (Sub.refl _) (by simpa [hp] using hK n1)


def encBl (b : Bool) : List Value := [.bool b]
theorem encBl_len (b : Bool) : (encBl b).length = 1 := rfl
theorem Upd.subOf {g0 g g' : G} {a b : List Nat} (hs : Sub g0 g) (ha : ∀ l ∈ a, g0 l = none) (u : Upd a b g g') : Sub g0 g' ∧ ∀ l ∈ b, g0 l = none := by
  refine ⟨fun l => ?_, fun l hl => ?_⟩
  · cases h : g0 l with
    | none => exact .inl rfl
    | some x => exact .inr (u.1 l x (hs.live h) (fun hm => by rw [ha l hm] at h; cases h)).symm
  · rcases u.2 l hl with h | h
    · exact ha l h
    · exact hs.none h
def B0 : Bd := ⟨[], [], false⟩
theorem B0_ok : B0.ok := ⟨by simp [B0], by simp [B0]⟩
theorem bd_new (hn : g n = none) : BdH (upd g n (some (.cells [(.slice none 0 0), (.slice none 0 0), (.slice none 0 0), (.bool false)] .exact))) [n] n B0 :=
  ⟨_, _, _, ⟨upd_same _ _ _, OwnS.nil, OwnS.nil, OwnS.nil, ⟨by simp [ObjF, blks, blkOf], by simp [blks, blkOf]⟩⟩, by simp [ObjF, blks, blkOf]⟩
theorem rb_new (hn : g n = none) : RbH (upd g n (some (.cells [(.slice none 0 0), (.slice none 0 0), (.bool false)] .exact))) [n] n B0 :=
  ⟨_, _, ⟨upd_same _ _ _, OwnS.nil, OwnS.nil, ⟨by simp [ObjF, blks, blkOf], by simp [blks, blkOf]⟩⟩, by simp [ObjF, blks, blkOf]⟩
theorem done_len (B : Bd) (hb : B.items.length ≤ 100000) : B.done.1.length ≤ 100000 := by
  unfold Bd.done
  split
  · simp
  · split
    · simp
    · split
      · simp
      · rename_i h
        split
        · simp
        · show (words (B.items.map B.fix)).1.length ≤ 100000
          rw [words_len _ (by simpa using h), List.length_map]; exact hb
end Go.Proofs.YtecojalpbppfeaaGreat.Gen
