import Derived.ChangeAlike
import Derived.Defers
import Derived.KernelRfl
import Derived.Laws.LoneSync
import Derived.Laws.Pointers
import Derived.RegionCalls
import Derived.RegionTactic
import Derived.Tactics
import Derived.Tactics2
import Derived.Test.YtldlimkjhppjbaaGenCrashTells
/- What the functions come to. -/
set_option linter.all false
set_option linter.deprecated false
namespace Go.Proofs.Ytldlimkjhppjbaa.Gen
open Go Go.Proofs.Ytldlimkjhppjbaa.Abs
/-! sync.Once and its lock, on the concrete side -/
theorem o_disable (w : World) : (callFunc 125 #[]).run Try.prog w = .ok (.value (.tuple #[])) w := run_call_mark0 Try.func125 (by kernel_rfl) (by kernel_rfl) (by kernel_rfl) .disable (by kernel_rfl) w
theorem o_enable (w : World) : (callFunc 127 #[]).run Try.prog w = .ok (.value (.tuple #[])) w := run_call_mark0 Try.func127 (by kernel_rfl) (by kernel_rfl) (by kernel_rfl) .enable (by kernel_rfl) w
theorem o_acquire (a : Addr) (w : World) : (callFunc 128 #[.pointer (some a)]).run Try.prog w = .ok (.value (.tuple #[])) w := run_call_marked Try.func128 (by kernel_rfl) (by kernel_rfl) (by kernel_rfl) .acquire (by kernel_rfl) a w
theorem o_release (a : Addr) (w : World) : (callFunc 130 #[.pointer (some a)]).run Try.prog w = .ok (.value (.tuple #[])) w := run_call_marked Try.func130 (by kernel_rfl) (by kernel_rfl) (by kernel_rfl) .releaseMerge (by kernel_rfl) a w
set_option maxRecDepth 100000 in
set_option maxHeartbeats 1600000 in
theorem o_store (a : Addr) (x : Value) (u : FrameMode) (w : World) (hc : w.cell? a = some x) (hz : w.frozen? a = false) :
    CallsD Try.prog 113 #[.pointer (some a), .bool true] u w fun e u' w' => u' = u ∧ (e = .returned (.tuple #[]) ∧ w' = w.drew.setCell a (.int .u32 1)) := by
  have hc' : w.drew.cell? a = some x := by go_simp
  have hz' : w.drew.frozen? a = false := by go_simp
  have hst := run_call_store (P := Try.prog) Try.func121 (by kernel_rfl) (by kernel_rfl) (by kernel_rfl) (by kernel_rfl) (k := .u32) (y := 1) hc' hz'
  go_enter_d Try.func113, Try.ntmps113
  go_wp2
  go_region_calls
  all_goals (go_end0; exact ⟨rfl, rfl⟩)
set_option maxRecDepth 100000 in
set_option maxHeartbeats 1600000 in
theorem o_unlock (a : Addr) (u : FrameMode) (w : World) (hc : w.cell? a = some (.int .i32 1)) (hz : w.frozen? a = false) :
    CallsD Try.prog 112 #[.pointer (some a)] u w fun e u' w' => u' = u ∧ (e = .returned (.tuple #[]) ∧ w' = w.setCell a (.int .i32 0)) := by
  have hd := o_disable
  have he := o_enable
  have hr := o_release
  have hadd := run_call_add (P := Try.prog) Try.func131 (by kernel_rfl) (by kernel_rfl) (by kernel_rfl) .i32 (by kernel_rfl) (y := -1) (s := 0) hc hz (by simp [go_sem]; rfl)
  have hcv := run_convert_to_unsafe (P := Try.prog) (src := 196) (dst := 200) Try.underlying196 Try.underlying200 (by kernel_rfl) hc
  go_enter_d Try.func112, Try.ntmps112
  go_wp2
  go_end0
  go_wp2
  go_end0
  exact ⟨rfl, rfl⟩
set_option maxRecDepth 100000 in
set_option maxHeartbeats 1600000 in
theorem o_lock (a : Addr) (w : World) (hc : w.cell? a = some (.int .i32 0)) (hz : w.frozen? a = false) :
    Calls Try.prog 111 #[.pointer (some a)] w fun e w' => e = .returned (.tuple #[]) ∧ w' = w.setCell a (.int .i32 1) := by
  have hd := o_disable
  have he := o_enable
  have ha := o_acquire
  have hcas := run_call_cas_hit (P := Try.prog) Try.func126 (by kernel_rfl) (by kernel_rfl) (by kernel_rfl) .i32 (by kernel_rfl) (y := 1) hc hz
  have hc' : (w.setCell a (.int .i32 1)).cell? a = some (.int .i32 1) := World.cell?_setCell_same w a _ hc
  have hcv := run_convert_to_unsafe (P := Try.prog) (src := 196) (dst := 200) Try.underlying196 Try.underlying200 (by kernel_rfl) hc'
  go_enter Try.func111, Try.ntmps111
  go_wp2
  first | go_end0 | (simp only [Exit.inBlock, Exit.then]; refine bodyPost_ret (results_none rfl _ _ _) rfl ?_) | refine bodyPost_ret (results_none rfl _ _ _) rfl ?_
  go_wp2
  go_end0
  exact ⟨rfl, rfl⟩
set_option maxRecDepth 100000 in
set_option maxHeartbeats 1600000 in
theorem o_slow97 (b off : Nat) (us vs : Array Value) (w : World) (R : Ending → World → Prop)
    (h0 : w.cell? ⟨b, off, none⟩ = some (.int .u32 0)) (h1 : w.cell? ⟨b, off + 1, none⟩ = some (.int .i32 0)) (f1 : w.frozen? ⟨b, off + 1, none⟩ = false)
    (hcb : Calls Try.prog 97 (us ++ #[] ++ vs) (w.setCell ⟨b, off + 1, none⟩ (.int .i32 1)) fun e w2 => (∃ v, e = .returned v) ∧ (∃ x, w2.cell? ⟨b, off, none⟩ = some x) ∧ w2.frozen? ⟨b, off, none⟩ = false ∧
      w2.cell? ⟨b, off + 1, none⟩ = some (.int .i32 1) ∧ w2.frozen? ⟨b, off + 1, none⟩ = false ∧ R (.returned (.tuple #[])) ((w2.drew.setCell ⟨b, off, none⟩ (.int .u32 1)).setCell ⟨b, off + 1, none⟩ (.int .i32 0))) :
    Calls Try.prog 105 #[.pointer (some ⟨b, off, none⟩), .func (.func 97) us vs] w R := by
  have hl := run_call_load (P := Try.prog) Try.func110 (by kernel_rfl) (by kernel_rfl) (by kernel_rfl) .u32 (by kernel_rfl) (w := w.setCell ⟨b, off + 1, none⟩ (.int .i32 1)) (a := ⟨b, off, none⟩) (x := 0) ((World.cell?_setCell_other _ ⟨b, off + 1, none⟩ ⟨b, off, none⟩ _ (by simp)).trans h0)
  have hnot : ∀ (x : Bool) (w : World), (Op.unary .not (.bool x)).run Try.prog w = .ok (.bool (!x)) w := fun _ _ => rfl
  have hinv : (callFunc 97 (us ++ #[] ++ vs)).run Try.prog (w.setCell ⟨b, off + 1, none⟩ (.int .i32 1)) = .ok (.enter 97 (us ++ #[] ++ vs)) (w.setCell ⟨b, off + 1, none⟩ (.int .i32 1)) := run_enter Try.func97 (by kernel_rfl) (by kernel_rfl)
  go_enter_defers Try.func105, Try.ntmps105
  go_wp2_with (first | (go_at_call 111; refine (o_lock ⟨b, off + 1, none⟩ _ (by go_simp) (by go_simp)).mono ?_; rintro e w' ⟨rfl, rfl⟩) | (go_at_call 104; go_in) | (go_at_call 97; refine hcb.mono ?_; rintro e w2 ⟨⟨v, rfl⟩, ⟨x, c0⟩, z0, c1, z1, hR⟩))
  refine leaves_cons (f := 113) (args := #[.pointer (some ⟨b, off, none⟩), .bool true]) (by simp) (by simp [go_sem]) ?_
  refine (o_store ⟨b, off, none⟩ x .returning _ c0 z0).mono ?_
  rintro e u' w'' ⟨rfl, rfl, rfl⟩
  refine leaves_cons (f := 112) (args := #[.pointer (some ⟨b, off + 1, none⟩)]) (by simp [settle]) (by simp [go_sem]) ?_
  refine (o_unlock ⟨b, off + 1, none⟩ _ _ ?_ (by simp [z1])).mono ?_
  · refine (World.cell?_setCell_other _ ⟨b, off, none⟩ ⟨b, off + 1, none⟩ _ (by simp)).trans ?_
    rw [World.cell?_drew]
    exact c1
  rintro e u' w'' ⟨rfl, rfl, rfl⟩
  simp [Leaves, settle, results, Try.results105]
  exact hR
set_option maxRecDepth 100000 in
set_option maxHeartbeats 1600000 in
theorem o_slow101 (b off : Nat) (us vs : Array Value) (w : World) (R : Ending → World → Prop)
    (h0 : w.cell? ⟨b, off, none⟩ = some (.int .u32 0)) (h1 : w.cell? ⟨b, off + 1, none⟩ = some (.int .i32 0)) (f1 : w.frozen? ⟨b, off + 1, none⟩ = false)
    (hcb : Calls Try.prog 101 (us ++ #[] ++ vs) (w.setCell ⟨b, off + 1, none⟩ (.int .i32 1)) fun e w2 => (∃ v, e = .returned v) ∧ (∃ x, w2.cell? ⟨b, off, none⟩ = some x) ∧ w2.frozen? ⟨b, off, none⟩ = false ∧
      w2.cell? ⟨b, off + 1, none⟩ = some (.int .i32 1) ∧ w2.frozen? ⟨b, off + 1, none⟩ = false ∧ R (.returned (.tuple #[])) ((w2.drew.setCell ⟨b, off, none⟩ (.int .u32 1)).setCell ⟨b, off + 1, none⟩ (.int .i32 0))) :
    Calls Try.prog 105 #[.pointer (some ⟨b, off, none⟩), .func (.func 101) us vs] w R := by
  have hl := run_call_load (P := Try.prog) Try.func110 (by kernel_rfl) (by kernel_rfl) (by kernel_rfl) .u32 (by kernel_rfl) (w := w.setCell ⟨b, off + 1, none⟩ (.int .i32 1)) (a := ⟨b, off, none⟩) (x := 0) ((World.cell?_setCell_other _ ⟨b, off + 1, none⟩ ⟨b, off, none⟩ _ (by simp)).trans h0)
  have hnot : ∀ (x : Bool) (w : World), (Op.unary .not (.bool x)).run Try.prog w = .ok (.bool (!x)) w := fun _ _ => rfl
  have hinv : (callFunc 101 (us ++ #[] ++ vs)).run Try.prog (w.setCell ⟨b, off + 1, none⟩ (.int .i32 1)) = .ok (.enter 101 (us ++ #[] ++ vs)) (w.setCell ⟨b, off + 1, none⟩ (.int .i32 1)) := run_enter Try.func101 (by kernel_rfl) (by kernel_rfl)
  go_enter_defers Try.func105, Try.ntmps105
  go_wp2_with (first | (go_at_call 111; refine (o_lock ⟨b, off + 1, none⟩ _ (by go_simp) (by go_simp)).mono ?_; rintro e w' ⟨rfl, rfl⟩) | (go_at_call 104; go_in) | (go_at_call 101; refine hcb.mono ?_; rintro e w2 ⟨⟨v, rfl⟩, ⟨x, c0⟩, z0, c1, z1, hR⟩))
  refine leaves_cons (f := 113) (args := #[.pointer (some ⟨b, off, none⟩), .bool true]) (by simp) (by simp [go_sem]) ?_
  refine (o_store ⟨b, off, none⟩ x .returning _ c0 z0).mono ?_
  rintro e u' w'' ⟨rfl, rfl, rfl⟩
  refine leaves_cons (f := 112) (args := #[.pointer (some ⟨b, off + 1, none⟩)]) (by simp [settle]) (by simp [go_sem]) ?_
  refine (o_unlock ⟨b, off + 1, none⟩ _ _ ?_ (by simp [z1])).mono ?_
  · refine (World.cell?_setCell_other _ ⟨b, off, none⟩ ⟨b, off + 1, none⟩ _ (by simp)).trans ?_
    rw [World.cell?_drew]
    exact c1
  rintro e u' w'' ⟨rfl, rfl, rfl⟩
  simp [Leaves, settle, results, Try.results105]
  exact hR
end Go.Proofs.Ytldlimkjhppjbaa.Gen

namespace Go.Proofs.Ytldlimkjhppjbaa.Gen
open Go Go.Proofs.Ytldlimkjhppjbaa.Abs Go.RowKit
variable {g : G} {n : Nat}
/-- told functions of this program -/
def TT : XTab := fun f =>
  if f = 105 then some (.slow [97, 101])
  else   if f = 110 then some (.ld .u32)
  else   if f = 123 then some (.tab idxT)
  else none
set_option maxRecDepth 100000 in
theorem TT_ok : XTOk Try.prog TT := by
  intro f k h
  unfold TT at h
  split at h
  · rename_i hf; subst hf; cases h
    refine ⟨⟨_, Try.func105, by kernel_rfl, by kernel_rfl⟩, ?_⟩
    intro F hF
    simp only [List.mem_cons, List.not_mem_nil, or_false] at hF
    rcases hF with rfl | rfl
    · exact ⟨⟨_, Try.func97, by kernel_rfl, by kernel_rfl⟩, o_slow97⟩
    · exact ⟨⟨_, Try.func101, by kernel_rfl, by kernel_rfl⟩, o_slow101⟩
  · split at h
    · rename_i hf; subst hf; cases h
      exact ⟨_, Try.func110, by kernel_rfl, by kernel_rfl, by kernel_rfl, by kernel_rfl⟩
    · split at h
      · rename_i hf; subst hf; cases h
        exact idx_sim ⟨_, Try.func123, by kernel_rfl, by kernel_rfl, by kernel_rfl, by kernel_rfl⟩
      · cases h
abbrev AC : CT := ACalls Try.prog (XP Try.prog TT)
theorem X0_mono : XMono (XP Try.prog TT) := XP_mono _
/-- a call of plain values that an evaluation tells -/
theorem AC_ev {f : FuncId} {args : List Value} {K : Cont} (v : Value) (fuel depth : Nat) (h1 : plain 3 v = true) (h2 : args.all (plain 3) = true) (h3 : ecallsH Try.prog (HT TT) fuel depth f args .nil 0 (fun v' _ _ => sameW v' v) = true) (hK : ∀ n', K v g n') : AC f args g n K :=
  fun C hC => hC.2 _ _ _ _ _ (.inr ⟨v, fuel, depth, h1, h2, h3, hK⟩)
theorem doSlow_tell {args : List Value} {K : Cont} (h : kSlow AC [97, 101] args g n K) : AC 105 args g n K := ACalls.foreign X0_mono (.inl h)
theorem LoadUint32_tell {args : List Value} {K : Cont} (h : kLoadX .u32 args g n K) : AC 110 args g n K := ACalls.foreign X0_mono (.inl h)

theorem kSplit_t {b : Bool} {A B : Prop} (h : b = true) (k : A) : kSplit (.bool b) A B := by subst h; exact k
theorem kSplit_f {b : Bool} {A B : Prop} (h : b = false) (k : B) : kSplit (.bool b) A B := by subst h; exact k
theorem take_add {α : Type} {xs : List α} {i : Nat} {x : α} (h : xs[i]? = some x) : xs.take (i + 1) = xs.take i ++ [x] := by rw [List.take_add_one, h]; rfl
theorem drop_get {α : Type} {xs : List α} {i : Nat} {x : α} (h : xs[i]? = some x) : xs.drop i = x :: xs.drop (i + 1) := by
  rw [List.drop_eq_getElem?_toList_append, h]; rfl
def idxV (o : Option Nat) : Value := match o with | some i => .int .i64 (i : Nat) | none => .int .i64 (-1)
theorem filter_take_none {α : Type} {p : α → Bool} {xs : List α} {i : Nat} (h : ∀ x ∈ xs.take i, p x = false) : (xs.take i).filter (fun x => !p x) = xs.take i := by
  rw [List.filter_eq_self]; intro x hx; simp [h x hx]
abbrev Ln := { w : List Int // w.length = 8 }
def encL (l : Ln) : List Value := l.1.map (.int .u64 ·)
theorem encL_len (l : Ln) : (encL l).length = 8 := by simp [encL, l.2]
theorem encL_cell (l : Ln) : ∀ v ∈ encL l, isCell v = true := by simp [encL, isCell]
def zeroL : Ln := ⟨[0, 0, 0, 0, 0, 0, 0, 0], rfl⟩
def Ln.put (l : Ln) (w : Nat) (v : Int) : Ln := ⟨l.1.set w v, by simp [l.2]⟩
theorem leaves_ints {k : IntKind} : ∀ (xs ys : List Int), xs.length = ys.length → leavesEq (List.replicate xs.length .i) (xs.map (.int k ·)) (ys.map (.int k ·)) = some (decide (xs = ys))
  | [], [], _ => rfl
  | [], _ :: _, h => by simp at h
  | _ :: _, [], h => by simp at h
  | x :: xs, y :: ys, h => by
    have ih := leaves_ints (k := k) xs ys (by simpa using h)
    simp only [List.length_cons, List.replicate_succ, List.map_cons, leavesEq, leafEq, if_true, ih, Option.some.injEq]
    rw [Bool.eq_iff_iff]; simp
theorem eqL (a b : Ln) (K : Value → Prop) (h : K (.bool (decide (a = b)))) : kBin (.agg [.i, .i, .i, .i, .i, .i, .i, .i]) .eql (.agg (encL a).toArray) (.agg (encL b).toArray) K := by
  have e := leaves_ints (k := .u64) a.1 b.1 (by rw [a.2, b.2])
  rw [a.2] at e
  have e' : leavesEq [.i, .i, .i, .i, .i, .i, .i, .i] (encL a) (encL b) = some (decide (a = b)) := by
    have : (decide (a = b)) = decide (a.1 = b.1) := by rw [Bool.eq_iff_iff]; simp [Subtype.ext_iff]
    rw [this]; exact e
  show (match leavesEq [.i, .i, .i, .i, .i, .i, .i, .i] (encL a) (encL b) with | some r => kCmp .eql r K | none => False)
  rw [e']
  exact h
theorem splice_all {cs vs : List Value} (h : vs.length = cs.length) : splice cs 0 vs = vs := by simp [splice, h]
theorem findIdx_some {α : Type} {p : α → Bool} {xs : List α} {i : Nat} {x : α} (he : xs[i]? = some x) (hp : p x = true) (hb : ∀ y ∈ xs.take i, p y = false) : xs.findIdx? p = some i := by
  have hlt := lt_of_get he
  rw [List.findIdx?_eq_some_iff_getElem]
  refine ⟨hlt, ?_, fun j hj => ?_⟩
  · rw [List.getElem?_eq_getElem hlt] at he; cases he; exact hp
  · have := hb xs[j] (List.mem_of_getElem? (i := j) (by rw [List.getElem?_take, if_pos hj, List.getElem?_eq_getElem]))
    simp [this]
def encB (i : Int) : List Value := [.int .u8 i]
theorem encB_len (i : Int) : (encB i).length = 1 := rfl
theorem encB_cell (i : Int) : ∀ v ∈ encB i, isCell v = true := by simp [encB, isCell]
theorem ldL {l : Nat} {x : Ln} {bk : BK} {K : List Value → Prop} (h : g l = some (.cells (encL x) bk)) (k : K (encL x)) : kLdN g l 0 8 K := by
  refine kLdN_of h (by rw [encL_len]; decide) ?_
  rw [List.drop_zero, List.take_of_length_le (by rw [encL_len]; exact Nat.le_refl _)]; exact k
theorem putL {l : Nat} {x : Ln} {w : Int} {v : Int} {K : Value → Nat → Nat → G → Prop} (hw : 0 ≤ w ∧ w < 8) (h : g l = some (.cells (encL x) .exact))
    (k : ∀ p l' o, upd g l (some (.cells (encL (x.put w.toNat v)) .exact)) l = some (.cells (encL (x.put w.toNat v)) .exact) → K p l' o (upd g l (some (.cells (encL (x.put w.toNat v)) .exact)))) :
    kIndexArr (ptr l 0) (.int .i64 w) 8 1 fun p => kPtr p fun l' o => kSt g l' o (.int .u64 v) (K p l' o) := by
  refine ⟨hw.1, hw.2, ?_⟩
  simp only [kPtr_p]
  refine kSt_of h rfl (by rw [encL_len]; omega) rfl ?_
  have e : (encL x).set (0 + w.toNat * 1) (.int .u64 v) = encL (x.put w.toNat v) := by simp [encL, Ln.put, List.map_set]
  rw [e]
  exact k _ _ _ (upd_same _ _ _)
end Go.Proofs.Ytldlimkjhppjbaa.Gen

namespace Go.Proofs.Ytldlimkjhppjbaa.Abs
open Go Go.Proofs.Ytldlimkjhppjbaa.Abs Go.RowKit
variable {g : G} {n : Nat}
/-! ## objects with slices of their own -/
def none0 : G := fun _ => none
theorem none0_sub (g : G) : Sub none0 g := fun _ => .inl rfl
def blks (v : Value) : List Nat := (blkOf v).toList
theorem mem_blks {v : Value} {l : Nat} : l ∈ blks v ↔ blkOf v = some l := by simp [blks]
def Upd (fp fp' : List Nat) (g g' : G) : Prop := (∀ l b, g l = some b → l ∉ fp → g' l = some b) ∧ (∀ l ∈ fp', l ∈ fp ∨ g l = none)
theorem Upd.refl (fp : List Nat) (g : G) : Upd fp fp g g := ⟨fun _ _ h _ => h, fun _ h => .inl h⟩
theorem Upd.sub {fp : List Nat} {g g' : G} (h : Sub g g') : Upd fp fp g g' := ⟨fun _ _ hl _ => h.live hl, fun _ h => .inl h⟩
theorem Upd.trans {a b c : List Nat} {g g1 g2 : G} (h : Upd a b g g1) (k : Upd b c g1 g2) : Upd a c g g2 := by
  refine ⟨fun l x hl hn => k.1 l x (h.1 l x hl hn) (fun hb => ?_), fun l hl => ?_⟩
  · rcases h.2 l hb with h1 | h1
    · exact hn h1
    · rw [h1] at hl; cases hl
  · rcases k.2 l hl with h1 | h1
    · exact h.2 l h1
    · by_cases hx : l ∈ a
      · exact .inl hx
      · refine .inr ?_
        cases hg : g l with
        | none => rfl
        | some x => rw [h.1 l x hg hx] at h1; cases h1
theorem own_app {α : Type} {enc : α → List Value} {z bytes : Nat} {v x : Value} {xs ys : List α} {K : Cont} (ho : OwnS enc z none0 g v xs) (hx : Sl enc z g x ys) (hc : ∀ y, ∀ v ∈ enc y, isCell v = true) (hb : bytes ≤ 1048576)
    (h1 : (xs.length + ys.length) * bytes ≤ 1099511627776) (h2 : xs.length + ys.length < 1099511627776) (h0 : 0 < ys.length)
    (hK : ∀ v' g' n', OwnS enc z none0 g' v' (xs ++ ys) → (∀ l b, g l = some b → l ∉ blks v → g' l = some b) → (∀ l ∈ blks v', g l = none) → K v' g' n') : kAppend v x z bytes g n K :=
  ho.append (none0_sub g) hx hc hb h1 h2 (fun v' g' n' _ h4 h5 h6 => hK v' g' n' h4 (fun l b hl hn => h5 l b hl (fun e => hn (mem_blks.2 e))) (fun l hl => h6 h0 l (mem_blks.1 hl)))
theorem OwnS.keepB {α : Type} {enc : α → List Value} {z : Nat} {g g' : G} {v : Value} {xs : List α} (h : OwnS enc z none0 g v xs) (hk : ∀ l b, g l = some b → l ∈ blks v → g' l = some b) : OwnS enc z none0 g' v xs :=
  h.keep fun l b h1 h2 => hk l b h1 (mem_blks.2 h2)
/-- the block of one's own slice is there -/
theorem OwnS.there {α : Type} {enc : α → List Value} {z : Nat} {g g0 : G} {v : Value} {xs : List α} (h : OwnS enc z g0 g v xs) : ∀ l ∈ blks v, xs.length ≠ 0 → ∃ b, g l = some b := by
  intro l hl hn
  rcases h with ⟨h0, _⟩ | ⟨l', c, bk, rfl, hg, _⟩
  · exact absurd h0 hn
  · have := mem_blks.1 hl; simp [blkOf] at this; subst this; exact ⟨_, hg⟩
/-- an object at lb with slices fs of its own -/
def ObjF (lb : Nat) (fs : List Value) : List Nat := lb :: fs.flatMap blks
structure Ob (g : G) (lb : Nat) (fs : List Value) : Prop where
  nd : (ObjF lb fs).Nodup
  live : ∀ l ∈ fs.flatMap blks, ∃ b, g l = some b
theorem blks_nodup (v : Value) : (blks v).Nodup := by simp only [blks]; cases blkOf v <;> simp
theorem Ob.keep {lb : Nat} {fs : List Value} {g' : G} (h : Ob g lb fs) (hk : ∀ l b, g l = some b → l ∈ ObjF lb fs → g' l = some b) : Ob g' lb fs :=
  ⟨h.nd, fun l hl => let ⟨b, hb⟩ := h.live l hl; ⟨b, hk l b hb (List.mem_cons_of_mem _ hl)⟩⟩
theorem Ob.app {lb : Nat} {A B : List Value} {v v' : Value} {g1 : G} {b0 b1 : Blk} (h : Ob g lb (A ++ v :: B)) (hlb : g lb = some b0) (hk : ∀ l b, g l = some b → l ∉ blks v → g1 l = some b) (hf : ∀ l ∈ blks v', g l = none)
    (ht : ∀ l ∈ blks v', ∃ b, g1 l = some b) :
    Ob (upd g1 lb (some b1)) lb (A ++ v' :: B) ∧ (∀ w ∈ A ++ B, ∀ l b, g l = some b → l ∈ blks w → upd g1 lb (some b1) l = some b) ∧ (∀ l b, g1 l = some b → l ∈ blks v' → upd g1 lb (some b1) l = some b) ∧
      Upd (ObjF lb (A ++ v :: B)) (ObjF lb (A ++ v' :: B)) g (upd g1 lb (some b1)) ∧ g1 lb = some b0 := by
  have nd := h.nd
  simp only [ObjF, List.flatMap_append, List.flatMap_cons, List.nodup_cons, List.mem_append, List.nodup_append, not_or] at nd
  obtain ⟨⟨n1, n2, n3⟩, n4, ⟨n5, n6, n7⟩, n8⟩ := nd
  have lv : ∀ l, (l ∈ A.flatMap blks ∨ l ∈ B.flatMap blks) → ∃ b, g l = some b := fun l hl => h.live l (by simp only [List.flatMap_append, List.flatMap_cons, List.mem_append]; rcases hl with h | h; exact .inl h; exact .inr (.inr h))
  have fr : ∀ l ∈ blks v', l ≠ lb ∧ l ∉ A.flatMap blks ∧ l ∉ B.flatMap blks := fun l hl => by
    refine ⟨fun e => ?_, fun e => ?_, fun e => ?_⟩
    · rw [← e, hf l hl] at hlb; cases hlb
    · obtain ⟨b, hb⟩ := lv l (.inl e); rw [hf l hl] at hb; cases hb
    · obtain ⟨b, hb⟩ := lv l (.inr e); rw [hf l hl] at hb; cases hb
  have oth : ∀ l, (l ∈ A.flatMap blks ∨ l ∈ B.flatMap blks) → l ≠ lb ∧ l ∉ blks v := fun l hl => by
    refine ⟨fun e => ?_, fun e => ?_⟩
    · subst e; exact hl.elim n1 n3
    · rcases hl with h | h
      · exact n8 l h l (.inl e) rfl
      · exact n7 l e l h rfl
  have keepO : ∀ l b, g l = some b → (l ∈ A.flatMap blks ∨ l ∈ B.flatMap blks) → upd g1 lb (some b1) l = some b := fun l b h1 h2 => by
    rw [upd_ne _ _ (oth l h2).1]; exact hk l b h1 (oth l h2).2
  refine ⟨⟨?_, ?_⟩, ?_, ?_, ⟨?_, ?_⟩, hk lb b0 hlb n2⟩
  · simp only [ObjF, List.flatMap_append, List.flatMap_cons, List.nodup_cons, List.mem_append, List.nodup_append, not_or]
    refine ⟨⟨n1, fun e => (fr _ e).1 rfl, n3⟩, n4, ⟨blks_nodup v', n6, fun a ha b hb e => (fr a ha).2.2 (e ▸ hb)⟩, fun a ha b hb e => ?_⟩
    rcases hb with hb | hb
    · exact (fr b hb).2.1 (e ▸ ha)
    · exact n8 a ha b (.inr hb) e
  · intro l hl
    simp only [List.flatMap_append, List.flatMap_cons, List.mem_append] at hl
    rcases hl with hl | hl | hl
    · obtain ⟨b, hb⟩ := lv l (.inl hl); exact ⟨b, keepO l b hb (.inl hl)⟩
    · obtain ⟨b, hb⟩ := ht l hl; exact ⟨b, by rw [upd_ne _ _ (fr l hl).1]; exact hb⟩
    · obtain ⟨b, hb⟩ := lv l (.inr hl); exact ⟨b, keepO l b hb (.inr hl)⟩
  · intro w hw l b h1 h2
    refine keepO l b h1 ?_
    rcases List.mem_append.1 hw with hw | hw
    · exact .inl (List.mem_flatMap.2 ⟨w, hw, h2⟩)
    · exact .inr (List.mem_flatMap.2 ⟨w, hw, h2⟩)
  · intro l b h1 h2; rw [upd_ne _ _ (fr l h2).1]; exact h1
  · intro l b hl hn
    simp only [ObjF, List.flatMap_append, List.flatMap_cons, List.mem_cons, List.mem_append, not_or] at hn
    rw [upd_ne _ _ hn.1]; exact hk l b hl hn.2.2.1
  · intro l hl
    simp only [ObjF, List.flatMap_append, List.flatMap_cons, List.mem_cons, List.mem_append] at hl
    rcases hl with rfl | hl | hl | hl
    · exact .inl (by simp [ObjF])
    · exact .inl (by simp [ObjF]; exact .inr (.inl (by simpa using hl)))
    · exact .inr (hf l hl)
    · exact .inl (by simp [ObjF]; exact .inr (.inr (.inr (by simpa using hl))))
/-- a cell of the object that is no slice -/
theorem Ob.cell {lb : Nat} {fs : List Value} {b0 b1 : Blk} (h : Ob g lb fs) (hlb : g lb = some b0) :
    Ob (upd g lb (some b1)) lb fs ∧ (∀ w ∈ fs, ∀ l b, g l = some b → l ∈ blks w → upd g lb (some b1) l = some b) ∧ Upd (ObjF lb fs) (ObjF lb fs) g (upd g lb (some b1)) := by
  have nd := h.nd
  simp only [ObjF, List.nodup_cons] at nd
  have ne : ∀ l ∈ fs.flatMap blks, l ≠ lb := fun l hl e => nd.1 (e ▸ hl)
  refine ⟨⟨h.nd, fun l hl => ?_⟩, fun w hw l b h1 h2 => ?_, ⟨fun l b h1 h2 => ?_, fun l hl => .inl hl⟩⟩
  · obtain ⟨b, hb⟩ := h.live l hl; exact ⟨b, by rw [upd_ne _ _ (ne l hl)]; exact hb⟩
  · rw [upd_ne _ _ (ne l (List.mem_flatMap.2 ⟨w, hw, h2⟩))]; exact h1
  · rw [upd_ne _ _ (fun e => h2 (by simp [ObjF, e]))]; exact h1
/-- a slice of the object was written in place -/
theorem Ob.elem {lb lv : Nat} {A B : List Value} {v : Value} {b1 : Blk} (h : Ob g lb (A ++ v :: B)) (hv : lv ∈ blks v) :
    Ob (upd g lv (some b1)) lb (A ++ v :: B) ∧ (∀ w ∈ A ++ B, ∀ l b, g l = some b → l ∈ blks w → upd g lv (some b1) l = some b) ∧ (∀ b, g lb = some b → upd g lv (some b1) lb = some b) ∧ Upd (ObjF lb (A ++ v :: B)) (ObjF lb (A ++ v :: B)) g (upd g lv (some b1)) := by
  have nd := h.nd
  simp only [ObjF, List.flatMap_append, List.flatMap_cons, List.nodup_cons, List.mem_append, List.nodup_append, not_or] at nd
  obtain ⟨⟨n1, n2, n3⟩, n4, ⟨n5, n6, n7⟩, n8⟩ := nd
  refine ⟨⟨h.nd, fun l hl => ?_⟩, fun w hw l b h1 h2 => ?_, fun b hb => ?_, ⟨fun l b h1 h2 => ?_, fun l hl => .inl hl⟩⟩
  · by_cases e : l = lv
    · subst e; exact ⟨_, upd_same _ _ _⟩
    · obtain ⟨b, hb⟩ := h.live l hl; exact ⟨b, by rw [upd_ne _ _ e]; exact hb⟩
  · rw [upd_ne]; exact h1
    rintro rfl
    rcases List.mem_append.1 hw with hw | hw
    · exact n8 l (List.mem_flatMap.2 ⟨w, hw, h2⟩) l (.inl hv) rfl
    · exact n7 l hv l (List.mem_flatMap.2 ⟨w, hw, h2⟩) rfl
  · rw [upd_ne]; exact hb
    rintro rfl; exact n2 hv
  · rw [upd_ne]; exact h1
    rintro rfl; exact h2 (by simp [ObjF]; exact .inr (.inr (.inl hv)))
theorem flat_setc {α : Type} {enc : α → List Value} {z : Nat} (hz : ∀ x, (enc x).length = z) {k : Nat} (hk : k < z) {w : Value} {y : α} : ∀ (xs : List α) (j : Nat) (x : α), xs[j]? = some x → (enc x).set k w = enc y →
    ((xs.map enc).flatten).set (j * z + k) w = ((xs.set j y).map enc).flatten
  | [], j, x, h, _ => by simp at h
  | a :: xs, 0, x, h, hy => by
    simp at h; subst h
    simp only [List.map_cons, List.flatten_cons, List.set_cons_zero, Nat.zero_mul, Nat.zero_add]
    rw [List.set_append_left _ _ (by rw [hz]; exact hk), hy]
  | a :: xs, j + 1, x, h, hy => by
    have ih := flat_setc hz hk (w := w) (y := y) xs j x (by simpa using h) hy
    simp only [List.map_cons, List.flatten_cons, List.set_cons_succ]
    rw [List.set_append_right _ _ (by rw [hz, Nat.add_mul]; omega), hz, ← ih]
    congr 2
    rw [Nat.add_mul]; omega
def bkOf (z : Nat) : Value → BK
  | .slice _ _ c => if c < LC then .exact else .loose z
  | _ => .exact
/-- a cell of an element of one's own slice is written -/
theorem own_put {α : Type} {enc : α → List Value} {z : Nat} {v : Value} {xs : List α} {K : Value → Nat → Nat → G → Prop} {j : Nat} {x y : α} {kk : IntKind} {w : Value} {c : Nat} (hz : ∀ x, (enc x).length = z) (h : OwnS enc z none0 g v xs) (hj : xs[j]? = some x) (hc : c < z) (hw : isCell w = true) (hy : (enc x).set c w = enc y)
    (hK : ∀ p l o, o = j * z → l ∈ blks v → OwnS enc z none0 (upd g l (some (.cells ((xs.set j y).map enc).flatten (bkOf z v)))) v (xs.set j y) →
      K p l o (upd g l (some (.cells ((xs.set j y).map enc).flatten (bkOf z v))))) :
    kIndexAddr v (.int kk j) z fun p => kPtr p fun l o => kSt g l (o + c) w (K p l o) := by
  have hlt : j < xs.length := by rcases Nat.lt_or_ge j xs.length with h | h; exact h; rw [List.getElem?_eq_none h] at hj; cases hj
  rcases h with ⟨h0, _⟩ | ⟨l, cc, bk, rfl, hg, h0, hl, hb⟩
  · omega
  · refine ⟨Int.natCast_nonneg _, by simpa using hlt, ?_⟩
    simp only [kPtr_p, Int.toNat_natCast, Nat.zero_add]
    have hfl := flat_setc hz hc xs j x hj hy
    have hll : (xs.map enc).flatten.length = xs.length * z := hl
    have hjz : j * z + c < xs.length * z := by
      have := Nat.mul_le_mul_right z (show j + 1 ≤ xs.length from hlt)
      rw [Nat.add_mul, Nat.one_mul] at this; omega
    have hbk : bk = bkOf z (.slice (some ⟨l, 0, none⟩) xs.length cc) ∧ bk.rw = true := by
      show bk = (if cc < LC then BK.exact else .loose z) ∧ bk.rw = true
      rcases hb with ⟨rfl, rfl, h⟩ | ⟨rfl, rfl⟩
      · rw [if_pos h]; exact ⟨rfl, rfl⟩
      · rw [if_neg (by omega)]; exact ⟨rfl, rfl⟩
    refine kSt_of hg hbk.2 (by rw [hll]; exact hjz) hw ?_
    rw [hfl, hbk.1]
    refine hK _ l _ rfl (by simp [blks, blkOf]) (.inr ⟨l, cc, bk, by rw [List.length_set], ?_, h0, ?_, ?_⟩)
    · rw [upd_same, hbk.1]
    · rw [flat_len enc z hz]
    · rw [List.length_set]; exact hb
theorem OwnS.isCell {α : Type} {enc : α → List Value} {z : Nat} {g g0 : G} {v : Value} {xs : List α} (h : OwnS enc z g0 g v xs) : Abs.isCell v = true := by
  rcases h with ⟨_, _, a, rfl, _⟩ | ⟨l, c, bk, rfl, _⟩ <;> rfl
end Go.Proofs.Ytldlimkjhppjbaa.Abs

namespace Go.Proofs.Ytldlimkjhppjbaa.Gen
open Go Go.Proofs.Ytldlimkjhppjbaa.Abs Go.RowKit
variable {g : G} {n : Nat}
structure Ev where
  kind : Int
  core : Int
  line : Int
  word : Int
  val : Int
  deriving DecidableEq
def encE (e : Ev) : List Value := [.int .i64 e.kind, .int .i64 e.core, .int .i64 e.line, .int .i64 e.word, .int .u64 e.val]
theorem encE_len (e : Ev) : (encE e).length = 5 := rfl
theorem encE_cell (e : Ev) : ∀ v ∈ encE e, isCell v = true := by simp [encE, isCell]

theorem itself_spec (e : Ev) {K : Cont} (hK : ∀ n', K (.agg (encE e).toArray) g n') : AC trace_itself_id [.agg (encE e).toArray] g n K := by
  refine ACalls.fold X0_mono ?_
  rw [← trace_itself_eq]
  simp only [trace_itself, kAgg_a]
  intro hn hn'
  have hs : Sub g (upd g n (some (.cells (encE e) .exact))) := (Sub.refl g).new hn _
  have e1 := upd_live (upd_same g n (some (.cells (encE e) .exact))) hn' (some (.cells [(.int .i64 0), (.int .i64 0), (.int .i64 0), (.int .i64 0), (.int .u64 0)] .exact))
  refine kLdN_of e1 (by simp [encE]) ?_
  refine ⟨rfl, kStN_of (upd_same _ _ _) rfl (by simp [encE]) (by simp [encE, isCell]) ?_⟩
  refine kLdN_of (upd_same _ _ _) (by simp [encE, splice]) ?_
  refine aRet_of (((hs.new hn' _).upd_fresh _ (hs.none hn'))) (hK _)


theorem chosenE_spec {v such conv : Value} (p : Ev → Bool) (f : Ev → Ev) {xs : List Ev} (hv : Sl encE 5 g v xs)
    (hsuch : ∀ (g' : G) (n' : Nat) (e : Ev) (K : Cont), Sub g g' → (∀ n, K (.bool (p e)) g' n) → kCall AC such [.agg (encE e).toArray] g' n' K)
    (has : ∀ (g' : G) (n' : Nat) (e : Ev) (K : Cont), Sub g g' → (∀ n, K ((fun e : Ev => Value.agg (encE e).toArray) (f e)) g' n) → kCall AC conv [.agg (encE e).toArray] g' n' K)
    (hlen : xs.length < 1000000) {K : Cont} (hK : ∀ v' g' n', Sub g g' → OwnS encE 5 g g' v' ((xs.filter p).map f) → K v' g' n') : AC trace_chosen_api_Event_api_Event_id [v, such, conv] g n K := by
  refine ACalls.fold X0_mono ?_
  rw [← trace_chosen_api_Event_api_Event_eq]
  simp only [trace_chosen_api_Event_api_Event]
  refine hv.len ?_
  refine lfp_ind (fun m t g' n' => ∃ i, m = xs.length - i ∧ i ≤ xs.length ∧ t 1 = such ∧ t 2 = conv ∧ t 10 = v ∧ t 11 = .int .i64 xs.length ∧ t 12 = .int .i64 i ∧ Sub g g' ∧ OwnS encE 5 g g' (t 7) (((xs.take i).filter p).map f)) ?_
    (m := xs.length) ⟨0, by simp, by simp, rfl, rfl, rfl, rfl, rfl, Sub.refl g, OwnS.nil⟩
  rintro I m t g1 n1 hI ⟨i, hm, hi, h1, h2, h10, h11, h12, hs, ho⟩
  simp only [trace_chosen_api_Event_api_Event_l1, h1, h2, h10, h11, h12, kBin_lss, kSplit_b]
  refine ⟨fun hlt => ?_, fun hge => ?_⟩
  · have hlt : i < xs.length := by simpa using hlt
    have he : xs[i]? = some xs[i] := List.getElem?_eq_getElem hlt
    generalize xs[i] = e at he
    have htk : xs.take (i + 1) = xs.take i ++ [e] := by rw [List.take_add_one, he]; rfl
    refine (hv.mono hs).idx encE_len he (fun l o ha => ?_)
    simp only [kPtr_p]
    refine ha.ldN rfl ?_
    intro hn1
    simp only [kAgg_a]
    refine ⟨rfl, kStN_of (upd_same _ _ _) rfl (by simp [encE]) (encE_cell e) ?_⟩
    have hs3 : Sub g1 _ := (((Sub.refl g1).new hn1 (some (.cells [(.int .i64 0), (.int .i64 0), (.int .i64 0), (.int .i64 0), (.int .u64 0)] .exact))).upd_fresh (some (.cells (encE e) .exact)) hn1)
    have hl3 : (upd (upd g1 n1 (some (.cells [(.int .i64 0), (.int .i64 0), (.int .i64 0), (.int .i64 0), (.int .u64 0)] .exact))) n1 (some (.cells (encE e) .exact))) n1 = some (.cells (encE e) .exact) := upd_same _ _ _
    refine kLdN_of (upd_same _ _ _) (by simp [encE, splice]) ?_
    refine hsuch _ _ e _ (hs.trans hs3) (fun n2 => ?_)
    simp only [kSplit_b]
    have hw : IntKind.i64.wrap ((i : Int) + 1) = ((i + 1 : Nat) : Int) := wrapNat (by omega)
    refine ⟨fun hp => ?_, fun hp => ?_⟩
    · refine kLdN_of hl3 (by simp [encE]) ?_
      refine has _ _ e _ (hs.trans hs3) (fun n3 => ?_)
      refine ⟨rfl, by decide, ?_⟩
      intro hn4
      have hs5 := hs3.new hn4 (some (.cells (encE (f e)) .exact))
      have hcnt : ((xs.take i).filter p).length ≤ i := Nat.le_trans (List.length_filter_le _ _) (by rw [List.length_take]; omega)
      refine OwnS.append (ho.mono hs5) (hs.trans hs5) (Sl.one (x := f e) (encE_len _) (upd_same _ _ _)) encE_cell (by decide) (by simp; omega) (by simp; omega) (fun v' g' n' hs' ho' _ _ => ?_)
      simp only [kBin_add, hw]
      refine hI (xs.length - (i + 1)) _ _ _ (by omega) ⟨i + 1, rfl, by omega, h1, h2, h10, h11, rfl, hs', ?_⟩
      have e2 : ((xs.take (i + 1)).filter p).map f = ((xs.take i).filter p).map f ++ [f e] := by simp [htk, hp]
      rw [e2]; exact ho'
    · simp only [kBin_add, hw]
      refine hI (xs.length - (i + 1)) _ _ _ (by omega) ⟨i + 1, rfl, by omega, h1, h2, h10, h11, rfl, hs.trans hs3, ?_⟩
      have e2 : ((xs.take (i + 1)).filter p).map f = ((xs.take i).filter p).map f := by simp [htk, hp]
      rw [e2]; exact ho.mono hs3
  · have hge : i = xs.length := by have : ¬ i < xs.length := by simpa using hge
                                   omega
    subst hge
    rw [List.take_length] at ho
    exact aRet_of (Sub.refl _) (hK _ _ _ hs ho)

theorem of1_spec {e : Ev} {lk lc : Nat} {kind core : Int} {bk bk' : BK} (hk : g lk = some (.cells [.int .i64 kind] bk)) (hc : g lc = some (.cells [.int .i64 core] bk')) {K : Cont}
    (hK : ∀ n', K (.bool ((decide (kind = 0) || decide (e.kind = kind)) && (decide (core = -1) || decide (e.core = core)))) g n') : AC trace_Of_1_id [.agg (encE e).toArray, ptr lk 0, ptr lc 0] g n K := by
  refine ACalls.fold X0_mono ?_
  rw [← trace_Of_1_eq]
  simp only [trace_Of_1, kAgg_a, kPtr_p]
  intro hn
  have hs : Sub g _ := (Sub.refl g).new hn (some (.cells (encE e) .exact))
  have h1 := upd_same g n (some (.cells (encE e) .exact))
  have fin : ∀ b n', b = ((decide (kind = 0) || decide (e.kind = kind)) && (decide (core = -1) || decide (e.core = core))) → aRet K (.bool b) (upd g n (some (.cells (encE e) .exact))) n' := fun b n' hb => aRet_of hs (hb ▸ hK _)
  refine kLd_of (hs.live hk) rfl ?_
  simp only [kBin_eql, kSplit_b, decide_eq_true_eq, decide_eq_false_iff_not]
  have tail : ∀ b, b = (decide (kind = 0) || decide (e.kind = kind)) → b = true → kLd (upd g n (some (.cells (encE e) .exact))) lc 0 fun v14 => kBin .int .eql v14 (.int .i64 (-1)) fun v15 => kSplit v15 (aRet K (.bool true) (upd g n (some (.cells (encE e) .exact))) (n + 1))
      (kLd (upd g n (some (.cells (encE e) .exact))) n (0 + 1) fun v18 => kLd (upd g n (some (.cells (encE e) .exact))) lc 0 fun v19 => kBin .int .eql v18 v19 fun v20 => aRet K v20 (upd g n (some (.cells (encE e) .exact))) (n + 1)) := by
    intro b hb hbt
    refine kLd_of (hs.live hc) rfl ?_
    simp only [kBin_eql, kSplit_b, decide_eq_true_eq, decide_eq_false_iff_not]
    refine ⟨fun h => fin _ _ (by rw [← hb, hbt]; simp [h]), fun h => ?_⟩
    refine kLd_of h1 rfl ?_
    refine kLd_of (hs.live hc) rfl ?_
    simp only [kBin_eql]
    exact fin _ _ (by rw [← hb, hbt]; simp [h])
  refine ⟨fun h => tail _ rfl (by simp [h]), fun h => ?_⟩
  refine kLd_of h1 rfl ?_
  refine kLd_of (hs.live hk) rfl ?_
  simp only [kBin_eql, kSplit_b, decide_eq_true_eq, decide_eq_false_iff_not]
  refine ⟨fun h => tail _ rfl (by simp [h]), fun h' => fin _ _ (by simp [h, h'])⟩

def ofP (kind core : Int) (e : Ev) : Bool := (decide (kind = 0) || decide (e.kind = kind)) && (decide (core = -1) || decide (e.core = core))
theorem Of_spec {v : Value} {xs : List Ev} {kind core : Int} (hv : Sl encE 5 g v xs) (hlen : xs.length < 1000000) {K : Cont}
    (hK : ∀ v' g' n', Sub g g' → OwnS encE 5 g g' v' (xs.filter (ofP kind core)) → K v' g' n') : AC trace_Of_id [v, .int .i64 kind, .int .i64 core] g n K := by
  refine ACalls.fold X0_mono ?_
  rw [← trace_Of_eq]
  simp only [trace_Of]
  refine ⟨rfl, fun hn => ⟨rfl, fun hn2 => ?_⟩⟩
  have hs1 : Sub g _ := (Sub.refl g).new hn (some (.cells [.int .i64 kind] .exact))
  have hs2 := hs1.new hn2 (some (.cells [.int .i64 core] .exact))
  have hk := upd_live (upd_same g n (some (.cells [.int .i64 kind] .exact))) hn2 (some (.cells [.int .i64 core] .exact))
  have hc := upd_same (upd g n (some (.cells [.int .i64 kind] .exact))) (n + 1) (some (.cells [.int .i64 core] .exact))
  refine chosenE_spec (ofP kind core) (fun e => e) (hv.mono hs2) ?_ ?_ hlen ?_
  · intro g' n' e K hs hK
    exact of1_spec (hs.live hk) (hs.live hc) hK
  · intro g' n' e K hs hK
    exact itself_spec e hK
  · intro v' g' n' hs ho
    refine aRet_of (Sub.refl _) (hK _ _ _ (hs2.trans hs) ?_)
    rw [List.map_id'] at ho
    exact ho.base hs2

theorem Words_spec {v w : Value} {xs ys : List Int} (hv : Sl encW 1 g v xs) (hw : Sl encW 1 g w ys) (hlen : xs.length < 1000000) {K : Cont}
    (hK : ∀ n', K (.bool (decide (xs = ys))) g n') : AC bellowskeep_Words_id [v, w] g n K := by
  refine ACalls.fold X0_mono ?_
  rw [← bellowskeep_Words_eq]
  simp only [bellowskeep_Words]
  refine hv.len (hw.len ?_)
  simp only [kBin_neq, kSplit_b, decide_eq_true_eq, decide_eq_false_iff_not]
  refine ⟨fun h => aRet_of (Sub.refl _) ?_, fun h => ?_⟩
  · have : xs ≠ ys := fun e => h (by rw [e])
    simpa [this] using hK n
  have hl : xs.length = ys.length := by omega
  refine lfp_ind (fun m t g' n' => g' = g ∧ ∃ i : Nat, m = xs.length - i ∧ i ≤ xs.length ∧ t 0 = v ∧ t 1 = w ∧ t 5 = .int .i64 i ∧ xs.take i = ys.take i) ?_
    (m := xs.length) ⟨rfl, 0, by simp, by simp, rfl, rfl, rfl, rfl⟩
  rintro I m t g1 n1 hI ⟨rfl, i, hm, hi, h0, h1, h5, hp⟩
  simp only [bellowskeep_Words_l1, h0, h1, h5]
  refine hv.len ?_
  simp only [kBin_lss, kSplit_b, decide_eq_true_eq, decide_eq_false_iff_not]
  refine ⟨fun hlt => ?_, fun hge => ?_⟩
  · have hlt : i < xs.length := by omega
    refine hv.idx encW_len (List.getElem?_eq_getElem hlt) (fun l o ha => ?_)
    simp only [kPtr_p]
    refine ha.ld (i := 0) rfl ?_
    refine hw.idx encW_len (List.getElem?_eq_getElem (hl ▸ hlt)) (fun l o ha => ?_)
    simp only [kPtr_p]
    refine ha.ld (i := 0) rfl ?_
    simp only [kBin_neq, kSplit_b, decide_eq_true_eq, decide_eq_false_iff_not, kBin_add]
    refine ⟨fun h => aRet_of (Sub.refl _) ?_, fun h => ?_⟩
    · have : xs ≠ ys := fun e => h (by subst e; rfl)
      simpa [this] using hK n1
    · rw [wrapNat (by omega)]
      refine hI (xs.length - (i + 1)) _ _ _ (by omega) ⟨rfl, i + 1, rfl, by omega, h0, h1, rfl, ?_⟩
      rw [List.take_add_one, List.take_add_one, List.getElem?_eq_getElem hlt, List.getElem?_eq_getElem (hl ▸ hlt), hp]
      have : xs[i] = ys[i] := Classical.byContradiction h
      simp [this]
  · have : i = xs.length := by omega
    subst this
    rw [List.take_length, hl, List.take_length] at hp
    exact aRet_of (Sub.refl _) (by simpa [hp] using hK n1)

theorem Sub_of_live {g' g : G} (h : ∀ l b, g' l = some b → g l = some b) : Sub g' g := fun l => by
  cases e : g' l with
  | none => exact .inl rfl
  | some b => exact .inr (h l b e).symm

def cutStep (s : List (List Ev) × List Ev) (e : Ev) : List (List Ev) × List Ev := if e.kind = 11 then (s.1 ++ [s.2], []) else (s.1, s.2 ++ [e])
def cutP (l : List Ev) : List (List Ev) × List Ev := l.foldl cutStep ([], [])
def cutF (l : List Ev) : List (List Ev) := (cutP l).1 ++ [(cutP l).2]

/-- a slice of slices of events -/
def Parts (g : G) (v : Value) (ps : List (List Ev)) : Prop := ∃ cs, Rd g v 1 ps.length cs ∧ ∀ (j : Nat) (p : List Ev), ps[j]? = some p → ∃ c, cs[j]? = some c ∧ Sl encE 5 g c p
theorem Parts.mono {g g' : G} {v : Value} {ps : List (List Ev)} (h : Parts g v ps) (hs : Sub g g') : Parts g' v ps := by
  obtain ⟨cs, h1, h2⟩ := h
  exact ⟨cs, h1.mono hs, fun j p hp => by obtain ⟨c, hc, hl⟩ := h2 j p hp; exact ⟨c, hc, hl.mono hs⟩⟩

theorem own_cell {α : Type} {enc : α → List Value} {z : Nat} {g0 : G} {v : Value} {xs : List α} (h : OwnS enc z g0 g v xs) : isCell v = true := by
  rcases h with ⟨_, _, a, rfl, _⟩ | ⟨l, c, bk, rfl, _⟩ <;> rfl

theorem Cut_spec {v : Value} {xs : List Ev} (hv : Sl encE 5 g v xs) (hlen : xs.length < 1000000) {K : Cont}
    (hK : ∀ v' g' n', Sub g g' → Parts g' v' (cutF xs) → K v' g' n') : AC trace_Cut_id [v] g n K := by
  refine ACalls.fold X0_mono ?_
  rw [← trace_Cut_eq]
  simp only [trace_Cut]
  refine ⟨rfl, by decide, ?_⟩
  intro hn
  refine hv.len ?_
  have hs0 : Sub g (upd g n (some (.cells [.slice none 0 0] .exact))) := (Sub.refl g).new hn _
  refine lfp_ind (fun m t g1 n1 => ∃ (i : Nat) (qs : List (List Ev)) (q : List Ev) (gb : G) (ds : List Value) (d : Value), m = xs.length - i ∧ i ≤ xs.length ∧ t 8 = v ∧ t 9 = .int .i64 xs.length ∧ t 10 = .int .i64 i ∧
      cutP (xs.take i) = (qs, q) ∧ Sub g gb ∧ Sub gb g1 ∧ Own gb g1 (t 3) 1 (qs.length + 1) (ds ++ [d]) ∧ ds.length = qs.length ∧ (∀ (j : Nat) (p : List Ev), qs[j]? = some p → ∃ c, ds[j]? = some c ∧ Sl encE 5 gb c p) ∧
      OwnS encE 5 gb g1 d q ∧ (∀ l, blkOf d = some l → blkOf (t 3) ≠ some l) ∧ qs.length ≤ i ∧ q.length ≤ i) ?_
    (m := xs.length) ⟨0, [], [], g, [], .slice none 0 0, by simp, by simp, rfl, rfl, rfl, rfl, Sub.refl g, hs0, Own.lit (upd_same _ _ _) hn rfl (by decide), rfl, by simp, OwnS.nil, by simp [blkOf], by simp, by simp⟩
  rintro I m t g1 n1 hI ⟨i, qs, q, gb, ds, d, hm, hi, h8, h9, h10, hc, hs1, hs2, hown, hdl, hds, hod, hbd, hq1, hq2⟩
  simp only [trace_Cut_l1, h8, h9, h10, kBin_lss, kSplit_b, decide_eq_true_eq, decide_eq_false_iff_not]
  refine ⟨fun hlt => ?_, fun hge => ?_⟩
  · have hlt : i < xs.length := by omega
    have he : xs[i]? = some xs[i] := List.getElem?_eq_getElem hlt
    generalize xs[i] = e at he
    have htk : xs.take (i + 1) = xs.take i ++ [e] := by rw [List.take_add_one, he]; rfl
    have hc' : cutP (xs.take (i + 1)) = cutStep (qs, q) e := by rw [htk]; unfold cutP at hc ⊢; rw [List.foldl_append, hc]; rfl
    have hw : IntKind.i64.wrap ((i : Int) + 1) = ((i + 1 : Nat) : Int) := wrapNat (by omega)
    refine (hv.mono (hs1.trans hs2)).idx encE_len he (fun l o ha => ?_)
    simp only [kPtr_p]
    refine ha.ldN rfl ?_
    intro hn1
    simp only [kAgg_a]
    refine ⟨rfl, kStN_of (upd_same _ _ _) rfl (by simp [encE]) (encE_cell e) ?_⟩
    have hs3 : Sub g1 _ := (((Sub.refl g1).new hn1 (some (.cells [(.int .i64 0), (.int .i64 0), (.int .i64 0), (.int .i64 0), (.int .u64 0)] .exact))).upd_fresh (some (.cells (encE e) .exact)) hn1)
    have hl3 : (upd (upd g1 n1 (some (.cells [(.int .i64 0), (.int .i64 0), (.int .i64 0), (.int .i64 0), (.int .u64 0)] .exact))) n1 (some (.cells (encE e) .exact))) n1 = some (.cells (encE e) .exact) := upd_same _ _ _
    refine kLd_of (upd_same _ _ _) rfl ?_
    simp only [kBin_eql, kSplit_b, decide_eq_true_eq, decide_eq_false_iff_not]
    rcases hown with ⟨h, _⟩ | ⟨lo, c, bk, h3, hg, h0, hl, hck⟩
    · exact absurd h (by omega)
    have hrw : bk.rw = true := by rcases hck with ⟨_, rfl, _⟩ | ⟨_, rfl⟩ <;> rfl
    have hown : Own gb g1 (.slice (some ⟨lo, 0, none⟩) (qs.length + 1) c) 1 (qs.length + 1) (ds ++ [d]) := .inr ⟨lo, c, bk, rfl, hg, h0, hl, hck⟩
    refine ⟨fun hk => ?_, fun hk => ?_⟩
    · -- a failure: a new part
      refine ⟨rfl, by decide, ?_⟩
      intro hn5
      have hs5 := hs3.new hn5 (some (.cells [.slice none 0 0] .exact))
      rw [h3]
      refine append_own (hs2.trans hs5) (hown.mono hs5) (Rd.lit (m := 1) (upd_same _ _ _) rfl) (show ∀ v ∈ [Value.slice none 0 0], isCell v = true from by simp [isCell]) (by decide) (by omega) (by omega) (fun v' g' n' hs' ho' hkeep hfr => ?_)
      simp only [kBin_add, hw]
      have hlo5 := hs5.live hg
      refine hI (xs.length - (i + 1)) _ _ _ (by omega) ⟨i + 1, qs ++ [q], [], upd (upd (upd (upd g1 n1 (some (.cells [(.int .i64 0), (.int .i64 0), (.int .i64 0), (.int .i64 0), (.int .u64 0)] .exact))) n1 (some (.cells (encE e) .exact))) (n1 + 1) (some (.cells [.slice none 0 0] .exact))) lo none, ds ++ [d], .slice none 0 0, rfl, by omega, h8, h9, rfl, by rw [hc']; simp [cutStep, hk], ?_, ?_, ?_, by simp [hdl], ?_, OwnS.nil, by simp [blkOf], by simp; omega, by simp⟩
      · exact hs1.trans ((hs2.trans hs5).upd_fresh _ h0)
      · refine Sub_of_live fun l b hb => ?_
        have hne : l ≠ lo := by intro e; subst e; rw [upd_same] at hb; cases hb
        rw [upd_ne _ _ hne] at hb
        exact hkeep l b hb (fun e => hne (Option.some.inj e).symm)
      · show Own _ g' v' 1 _ _
        rw [List.length_append, List.length_singleton]
        rcases ho' with ⟨h, _⟩ | ⟨lo', c', bk', rfl, hg', h0', hl', hck'⟩
        · exact absurd h (by omega)
        · refine .inr ⟨lo', c', bk', rfl, hg', ?_, by simp [hdl], hck'⟩
          have := hfr (by omega) lo' rfl
          by_cases e : lo' = lo
          · subst e; rw [upd_same]
          · rw [upd_ne _ _ e]; exact this
      · intro j p hp
        rw [List.getElem?_append] at hp
        split at hp
        · rename_i hj
          obtain ⟨c1, h1, h2⟩ := hds j p hp
          exact ⟨c1, by rw [List.getElem?_append_left (by omega)]; exact h1, h2.mono ((hs2.trans hs5).upd_fresh _ h0)⟩
        · rename_i hj
          have hj0 : j - qs.length = 0 := by
            rcases Nat.eq_zero_or_pos (j - qs.length) with h | h
            · exact h
            · rw [List.getElem?_eq_none (by simp; omega)] at hp; cases hp
          rw [hj0] at hp
          simp at hp
          subst hp
          refine ⟨d, by rw [List.getElem?_append_right (by omega), show j - ds.length = 0 by omega]; rfl, ?_⟩
          refine OwnS.sl (g0 := gb) (hod.keep fun l b hb hbl => ?_)
          have hne : l ≠ lo := by intro e; subst e; exact hbd l hbl (by rw [h3]; rfl)
          rw [upd_ne _ _ hne]
          exact hs5.live hb
    · -- an event of the last part
      rw [h3]
      simp only [kLen_s, kBin_sub]
      have hw2 : IntKind.i64.wrap (((qs.length + 1 : Nat) : Int) - 1) = (qs.length : Int) := by rw [wrap64_of (by omega) (by omega)]; omega
      rw [hw2]
      refine kIndexAddr_s (by omega) (by omega) ?_
      simp only [kPtr_p, Int.toNat_natCast, Nat.zero_add, Nat.mul_one]
      have hdd : (ds ++ [d])[qs.length]? = some d := by rw [List.getElem?_append_right (by omega), show qs.length - ds.length = 0 by omega]; rfl
      refine kLd_of (hs3.live hg) hdd ?_
      refine kLdN_of hl3 (by simp [encE]) ?_
      refine ⟨rfl, by decide, ?_⟩
      intro hn5
      have hs5 := hs3.new hn5 (some (.cells (encE e) .exact))
      refine ⟨?_, ?_⟩
      · show upd _ _ _ lo = _
        rw [upd_ne]
        intro e; subst e; exact absurd ((hs3.live hg).symm.trans hn5) (by simp)
      refine OwnS.append (hod.mono hs5) (hs2.trans hs5) (Sl.one (x := e) (encE_len _) (upd_same _ _ _)) encE_cell (by decide) (by simp; omega) (by simp; omega) (fun v' g' n' hs' ho' hkeep hfr => ?_)
      refine kIndexAddr_s (by omega) (by omega) ?_
      simp only [kPtr_p, Int.toNat_natCast, Nat.zero_add, Nat.mul_one]
      have hlo5 := hs5.live hg
      have hne : blkOf d ≠ some lo := fun e => hbd lo e (by rw [h3]; rfl)
      have hg7 := hkeep lo _ hlo5 hne
      have hlv : ∀ l, blkOf v' = some l → l ≠ lo := fun l hl e => by
        subst e; exact absurd (hlo5.symm.trans (hfr (by simp) l hl)) (by simp)
      refine kSt_of hg7 hrw (by simp; omega) (own_cell ho') ?_
      simp only [kBin_add, hw]
      have hset : (ds ++ [d]).set qs.length v' = ds ++ [v'] := by rw [← hdl, List.set_append_right _ _ (by omega)]; simp
      rw [hset]
      refine hI (xs.length - (i + 1)) _ _ _ (by omega) ⟨i + 1, qs, q ++ [e], gb, ds, v', rfl, by omega, h8, h9, rfl, by rw [hc']; simp [cutStep, hk], hs1, hs'.upd_fresh _ h0, ?_, hdl, hds, ?_, ?_, by omega, by simp; omega⟩
      · show Own gb _ (t 3) 1 _ _
        rw [h3]
        exact .inr ⟨lo, c, bk, rfl, upd_same _ _ _, h0, by simpa using hl, hck⟩
      · exact ho'.keep fun l b hb hbl => by rw [upd_ne _ _ (hlv l hbl)]; exact hb
      · intro l hl
        show blkOf (t 3) ≠ some l
        rw [h3]
        simp only [blkOf, ne_eq, Option.some.injEq]
        exact fun e => hlv l hl e.symm
  · have hge : i = xs.length := by omega
    subst hge
    rw [List.take_length] at hc
    refine aRet_of (Sub.refl _) (hK _ _ _ (hs1.trans hs2) ⟨ds ++ [d], ?_, ?_⟩)
    · have : (cutF xs).length = qs.length + 1 := by simp [cutF, hc]
      rw [this]; exact hown.rd
    · intro j p hp
      simp only [cutF, hc] at hp
      rw [List.getElem?_append] at hp
      split at hp
      · rename_i hj
        obtain ⟨c1, h1, h2⟩ := hds j p hp
        exact ⟨c1, by rw [List.getElem?_append_left (by omega)]; exact h1, h2.mono hs2⟩
      · rename_i hj
        have hj0 : j - qs.length = 0 := by
          rcases Nat.eq_zero_or_pos (j - qs.length) with h | h
          · exact h
          · rw [List.getElem?_eq_none (by simp; omega)] at hp; cases hp
        rw [hj0] at hp
        simp at hp
        subst hp
        exact ⟨d, by rw [List.getElem?_append_right (by omega), show j - ds.length = 0 by omega]; rfl, hod.sl⟩
theorem Parts.get {v : Value} {ps : List (List Ev)} {j : Nat} {i : Int} {p : List Ev} {K : Value → Prop} (h : Parts g v ps) (hi : i = (j : Int)) (hj : ps[j]? = some p)
    (kk : ∀ l o c, Sl encE 5 g c p → (∀ K' : Value → Prop, K' c → kLd g l o K') → K (ptr l o)) : kIndexAddr v (.int .i64 i) 1 K := by
  obtain ⟨cs, hr, hc⟩ := h
  obtain ⟨c, h1, h2⟩ := hc j p hj
  have hlt : j < ps.length := by rcases Nat.lt_or_ge j ps.length with h | h; exact h; rw [List.getElem?_eq_none h] at hj; cases hj
  subst hi
  refine hr.idx (by omega) (by omega) (fun l o ha => ?_)
  have e : (cs.drop ((j : Int).toNat * 1)).take 1 = [c] := by
    rw [Int.toNat_natCast, Nat.mul_one]
    have := List.drop_eq_getElem?_toList_append (l := cs) (i := j)
    rw [this, h1]; rfl
  rw [e] at ha
  exact kk l o c h2 fun K' hk => ha.ld (i := 0) rfl hk
theorem Parts.len {v : Value} {ps : List (List Ev)} {K : Value → Prop} (h : Parts g v ps) (k : K (.int .i64 ps.length)) : kLen v K := by obtain ⟨cs, hr, _⟩ := h; exact hr.len k

end Go.Proofs.Ytldlimkjhppjbaa.Gen

namespace Go.Proofs.Ytldlimkjhppjbaa.Gen
open Go Go.Proofs.Ytldlimkjhppjbaa.Abs Go.RowKit
variable {g : G} {n : Nat}
/-- a heap's shape -/
structure Hp where
  cores : Int
  lines : Int
  vol : Int
  sets : Int
  ways : Int
  queue : Int
  store : Int
  log : Int
  hl : Int
  deriving DecidableEq
def encC (h : Hp) : List Value := [.int .i64 h.cores, .int .i64 h.lines, .int .i64 h.vol, .int .i64 h.sets, .int .i64 h.ways, .int .i64 h.queue, .int .i64 h.store]
def encH (h : Hp) : List Value := encC h ++ [.int .i64 h.log, .int .i64 h.hl]
theorem encC_len (h : Hp) : (encC h).length = 7 := rfl
theorem encH_len (h : Hp) : (encH h).length = 9 := rfl
def GoodC (h : Hp) : Prop := 1 ≤ h.cores ∧ h.cores ≤ 8 ∧ 2 ≤ h.lines ∧ h.lines ≤ 64 ∧ 1 ≤ h.vol ∧ h.vol < h.lines ∧ (h.sets = 1 ∨ h.sets = 2 ∨ h.sets = 4 ∨ h.sets = 8) ∧ 1 ≤ h.ways ∧ h.ways ≤ 8 ∧ 1 ≤ h.queue ∧ h.queue ≤ 16 ∧ 1 ≤ h.store ∧ h.store ≤ 16
instance (h : Hp) : Decidable (GoodC h) := by unfold GoodC; infer_instance
def GoodH (h : Hp) : Prop := GoodC h ∧ 1 ≤ h.log ∧ h.log ≤ 16 ∧ 1 ≤ h.hl ∧ h.hl ≤ 16 ∧ h.vol + 1 + h.log + h.hl ≤ h.lines
instance (h : Hp) : Decidable (GoodH h) := by unfold GoodH; infer_instance
theorem kSplit_c {b : Bool} {A B : Prop} (hA : b = true → A) (hB : b = false → B) : kSplit (.bool b) A B := by cases b; exact hB rfl; exact hA rfl
theorem kSplit_d {p : Prop} [Decidable p] {A B : Prop} (hA : p → A) (hB : ¬ p → B) : kSplit (.bool (decide p)) A B := by
  by_cases h : p
  · simp only [h, decide_true]; exact hA h
  · simp only [h, decide_false]; exact hB h
theorem leafB {K : Cont} {G0 : Bool} (hK : ∀ n', K (.bool G0) g n') {b : Bool} (h : b = G0) {n' : Nat} : K (.bool b) g n' := by subst h; exact hK _
theorem between_spec {x a b : Int} {K : Cont} (hK : ∀ n', K (.bool (decide (a ≤ x ∧ x ≤ b))) g n') : AC word_between_id [.int .i64 x, .int .i64 a, .int .i64 b] g n K := by
  refine ACalls.fold X0_mono ?_
  rw [← word_between_eq]
  simp only [word_between, kBin_geq, kBin_leq]
  refine kSplit_c (fun h => aRet_of (Sub.refl _) (leafB hK ?_)) (fun h => aRet_of (Sub.refl _) (leafB hK ?_))
  · simp at h; simp [h]
  · simp at h; simp; omega
theorem ldC {l : Nat} {x : Hp} {bk : BK} {K : List Value → Prop} (h : g l = some (.cells (encC x) bk)) (k : K (encC x)) : kLdN g l 0 7 K := by
  refine kLdN_of h (by rw [encC_len]; decide) ?_
  rw [List.drop_zero, List.take_of_length_le (by rw [encC_len]; exact Nat.le_refl _)]; exact k
theorem ldH {l : Nat} {x : Hp} {bk : BK} {K : List Value → Prop} (h : g l = some (.cells (encH x) bk)) (k : K (encH x)) : kLdN g l 0 9 K := by
  refine kLdN_of h (by rw [encH_len]; decide) ?_
  rw [List.drop_zero, List.take_of_length_le (by rw [encH_len]; exact Nat.le_refl _)]; exact k
theorem ldHC {l : Nat} {x : Hp} {bk : BK} {K : List Value → Prop} (h : g l = some (.cells (encH x) bk)) (k : K (encC x)) : kLdN g l (0 + 0) 7 K :=
  kLdN_of h (by rw [encH_len]; decide) k
set_option maxHeartbeats 2000000 in
theorem rGoodC_spec {h : Hp} {K : Cont} (hK : ∀ g' n', Sub g g' → K (.bool (decide (GoodC h))) g' n') : AC bellowsref01_Good_id [.agg (encC h).toArray] g n K := by
  refine ACalls.fold X0_mono ?_
  rw [← bellowsref01_Good_eq]
  simp only [bellowsref01_Good, kAgg_a]
  intro hn
  have hu : Sub g (upd g n (some (.cells (encC h) .exact))) := (Sub.refl g).new hn _
  have hb : upd g n (some (.cells (encC h) .exact)) n = some (.cells (encC h) .exact) := upd_same _ _ _
  generalize upd g n (some (.cells (encC h) .exact)) = g1 at hu hb
  have hK1 : ∀ m, K (.bool (decide (GoodC h))) g1 m := fun m => hK _ _ hu
  clear hK hu hn
  repeat' first
    | (refine kLd_of hb rfl ?_)
    | (refine kSplit_c (fun _ => ?_) (fun _ => ?_))
    | (refine aRet_of (Sub.refl _) (leafB hK1 ?_))
    | (simp only [kBin_geq, kBin_leq, kBin_lss, kBin_eql])
  all_goals (simp only [decide_eq_true_eq, decide_eq_false_iff_not] at *; rw [Bool.eq_iff_iff]; simp only [decide_eq_true_eq, reduceCtorEq, false_iff]; unfold GoodC; omega)
set_option maxHeartbeats 2000000 in
theorem GoodC_spec {h : Hp} {K : Cont} (hK : ∀ g' n', Sub g g' → K (.bool (decide (GoodC h))) g' n') : AC word_Good_id [.agg (encC h).toArray] g n K := by
  refine ACalls.fold X0_mono ?_
  rw [← word_Good_eq]
  simp only [word_Good, kAgg_a]
  intro hn
  have hu : Sub g (upd g n (some (.cells (encC h) .exact))) := (Sub.refl g).new hn _
  have hb : upd g n (some (.cells (encC h) .exact)) n = some (.cells (encC h) .exact) := upd_same _ _ _
  generalize upd g n (some (.cells (encC h) .exact)) = g1 at hu hb
  have hK1 : ∀ m, K (.bool (decide (GoodC h))) g1 m := fun m => hK _ _ hu
  clear hK hu hn
  repeat' first
    | (refine kLd_of hb rfl ?_)
    | (refine kSplit_d (fun _ => ?_) (fun _ => ?_))
    | (refine kSplit_t rfl ?_)
    | (refine kSplit_f rfl ?_)
    | (refine between_spec fun _ => ?_)
    | (refine aRet_of (Sub.refl _) (leafB hK1 ?_))
    | (rw [kBin_sub, wrap64_of (by omega) (by omega)])
    | (simp only [kBin_geq, kBin_leq, kBin_lss, kBin_eql])
  all_goals (rw [Bool.eq_iff_iff]; simp only [decide_eq_true_eq, reduceCtorEq, false_iff, Bool.false_eq_true]; unfold GoodC; omega)
set_option maxHeartbeats 2000000 in
theorem rGoodH_spec {h : Hp} {K : Cont} (hK : ∀ g' n', Sub g g' → K (.bool (decide (GoodH h))) g' n') : AC bellowsref22_Good_id [.agg (encH h).toArray] g n K := by
  refine ACalls.fold X0_mono ?_
  rw [← bellowsref22_Good_eq]
  simp only [bellowsref22_Good, kAgg_a]
  intro hn
  have hu : Sub g (upd g n (some (.cells (encH h) .exact))) := (Sub.refl g).new hn _
  have hb : upd g n (some (.cells (encH h) .exact)) n = some (.cells (encH h) .exact) := upd_same _ _ _
  generalize upd g n (some (.cells (encH h) .exact)) = g1 at hu hb
  refine ldHC hb (rGoodC_spec fun g2 n2 hs2 => ?_)
  have hb2 := hs2.live hb
  have hK1 : ∀ m, K (.bool (decide (GoodH h))) g2 m := fun m => hK _ _ (hu.trans hs2)
  clear hK hu hn
  have gc : GoodC h → 2 ≤ h.lines ∧ h.lines ≤ 64 ∧ 1 ≤ h.vol ∧ h.vol < h.lines := fun h => ⟨h.2.2.1, h.2.2.2.1, h.2.2.2.2.1, h.2.2.2.2.2.1⟩
  refine kSplit_d (fun hc => ?_) (fun hc => ?_)
  · have gc := gc hc
    repeat' first
      | (refine kLd_of hb2 rfl ?_)
      | (refine kSplit_d (fun _ => ?_) (fun _ => ?_))
      | (refine aRet_of (Sub.refl _) (leafB hK1 ?_))
      | (rw [kBin_add, wrap64_of (by omega) (by omega)])
      | (simp only [kBin_geq, kBin_leq, kBin_lss, kBin_eql])
    all_goals (rw [Bool.eq_iff_iff]; simp only [decide_eq_true_eq, reduceCtorEq, false_iff, Bool.false_eq_true, GoodH, hc, true_and]; omega)
  · exact aRet_of (Sub.refl _) (leafB hK1 (by simp [GoodH, hc]))
def planT (h : Hp) : List Value := [.bool (decide (GoodH h)), .int .i64 (IntKind.i64.wrap (h.vol + 1)), .int .i64 (IntKind.i64.wrap (IntKind.i64.wrap (h.vol + 1) + h.log)), .int .i64 h.hl, .int .i64 (IntKind.i64.wrap (4 * h.log))]
set_option maxHeartbeats 4000000 in
theorem reckon_spec {h : Hp} {lp : Nat} {a b c d0 d1 d2 d3 d4 : Value} (hp : g lp = some (.cells [a, b, c, d0, d1, d2, d3, d4] .exact)) {K : Cont}
    (hK : ∀ g' n', (∀ l x, g l = some x → l ≠ lp → g' l = some x) → g' lp = some (.cells ([a, b, c] ++ planT h) .exact) → K (.tuple #[]) g' n') : AC layout_plan_reckon_id [ptr lp 0, .agg (encH h).toArray] g n K := by
  refine ACalls.fold X0_mono ?_
  rw [← layout_plan_reckon_eq]
  simp only [layout_plan_reckon, kAgg_a]
  intro hn
  have hu : Sub g (upd g n (some (.cells (encH h) .exact))) := (Sub.refl g).new hn _
  have hb : upd g n (some (.cells (encH h) .exact)) n = some (.cells (encH h) .exact) := upd_same _ _ _
  have hne : n ≠ lp := fun e => by rw [e, hp] at hn; cases hn
  generalize upd g n (some (.cells (encH h) .exact)) = g1 at hu hb
  refine ldHC hb (GoodC_spec fun g2 n2 hs2 => ?_)
  have hb2 := hs2.live hb
  have hp2 := hs2.live (hu.live hp)
  have hk : ∀ l x, g l = some x → g2 l = some x := fun l x hl => hs2.live (hu.live hl)
  have gc : GoodC h → 2 ≤ h.lines ∧ h.lines ≤ 64 ∧ 1 ≤ h.vol ∧ h.vol < h.lines := fun h => ⟨h.2.2.1, h.2.2.2.1, h.2.2.2.2.1, h.2.2.2.2.2.1⟩
  have fin : ∀ (x : Bool) (e1 e2 e4 : Int) (n' : Nat) (g' : G), g' lp = some (.cells [a, b, c, .bool x, .int .i64 e1, .int .i64 e2, .int .i64 h.hl, .int .i64 e4] .exact) → x = decide (GoodH h) → e1 = IntKind.i64.wrap (h.vol + 1) → e2 = IntKind.i64.wrap (IntKind.i64.wrap (h.vol + 1) + h.log) →
      e4 = IntKind.i64.wrap (4 * h.log) → (∀ l, l ≠ lp → g' l = g2 l) → K (.tuple #[]) g' n' := by
    intro x e1 e2 e4 n' g' h2 hx h3 h4 h5 h1
    subst hx h3 h4 h5
    exact hK _ _ (fun l y hl hne => by rw [h1 l hne]; exact hk l y hl) h2
  clear hK hu hn
  refine kSplit_d (fun hc => ?_) (fun hc => ?_)
  · have gc := gc hc
    repeat' first
      | (refine kLd_of hb2 rfl ?_)
      | (refine kLd_of ((upd_ne _ _ hne).trans hb2) rfl ?_)
      | (refine kLd_of ((upd_ne _ _ hne).trans ((upd_ne _ _ hne).trans hb2)) rfl ?_)
      | (refine kLd_of ((upd_ne _ _ hne).trans ((upd_ne _ _ hne).trans ((upd_ne _ _ hne).trans hb2))) rfl ?_)
      | (refine kLd_of (upd_same _ _ _) rfl ?_)
      | (refine kSt_of hp2 rfl (by simp) rfl ?_)
      | (refine kSt_of (upd_same _ _ _) rfl (by simp) rfl ?_)
      | (refine kSplit_d (fun _ => ?_) (fun _ => ?_))
      | (refine aRet_of (Sub.refl _) (fin _ _ _ _ _ _ (upd_same _ _ _) ?_ ?_ ?_ ?_ ?_))
      | (rw [kNil_p])
      | (rw [kPtr_p])
      | (rw [kBin_mul])
      | (refine ⟨upd_ne _ _ hne, ?_⟩)
      | (rw [kBin_sub, wrap64_of (by omega) (by omega)])
      | (rw [kBin_add, wrap64_of (by omega) (by omega)])
      | (rw [kBin_add])
      | (simp only [kBin_geq, kBin_leq, kBin_lss, kBin_eql])
    all_goals first
      | (intro l hl; rw [upd_ne _ _ hl, upd_ne _ _ hl, upd_ne _ _ hl, upd_ne _ _ hl, upd_ne _ _ hl])
      | rfl
      | (rw [wrap64_of (by omega) (by omega)])
      | (rw [wrap64_of (a := h.vol + 1) (by omega) (by omega), wrap64_of (by omega) (by omega)])
      | (rw [wrap64_of (a := h.vol + 1) (by omega) (by omega)])
      | (rw [Bool.eq_iff_iff]; simp only [decide_eq_true_eq, reduceCtorEq, false_iff, Bool.false_eq_true, GoodH, hc, true_and]; omega)
  · have hng : decide (GoodH h) = false := by simp [GoodH, hc]
    repeat' first
      | (refine kLd_of hb2 rfl ?_)
      | (refine kLd_of ((upd_ne _ _ hne).trans hb2) rfl ?_)
      | (refine kLd_of ((upd_ne _ _ hne).trans ((upd_ne _ _ hne).trans hb2)) rfl ?_)
      | (refine kLd_of ((upd_ne _ _ hne).trans ((upd_ne _ _ hne).trans ((upd_ne _ _ hne).trans hb2))) rfl ?_)
      | (refine kLd_of (upd_same _ _ _) rfl ?_)
      | (refine kSt_of hp2 rfl (by simp) rfl ?_)
      | (refine kSt_of (upd_same _ _ _) rfl (by simp) rfl ?_)
      | (refine aRet_of (Sub.refl _) (fin _ _ _ _ _ _ (upd_same _ _ _) ?_ ?_ ?_ ?_ ?_))
      | (rw [kNil_p])
      | (rw [kPtr_p])
      | (rw [kBin_mul])
      | (refine ⟨upd_ne _ _ hne, ?_⟩)
      | (rw [kBin_add])
    all_goals first
      | (intro l hl; rw [upd_ne _ _ hl, upd_ne _ _ hl, upd_ne _ _ hl, upd_ne _ _ hl, upd_ne _ _ hl])
      | rfl
      | exact hng.symm
end Go.Proofs.Ytldlimkjhppjbaa.Gen

namespace Go.Proofs.Ytldlimkjhppjbaa.Gen
open Go Go.Proofs.Ytldlimkjhppjbaa.Abs Go.RowKit
variable {g : G} {n : Nat}
theorem upd_upd (g : G) (l : Nat) (a b : Option Blk) : upd (upd g l a) l b = upd g l b := by
  funext i; by_cases h : i = l
  · subst h; rw [upd_same, upd_same]
  · rw [upd_ne _ _ h, upd_ne _ _ h, upd_ne _ _ h]
def planD (h : Hp) : List Value := [.int .u32 1, .int .i32 0, .int .u32 0] ++ planT h
theorem of_spec {h : Hp} {K : Cont} (hK : ∀ lp g' n', Sub g g' → g' lp = some (.cells (planD h) .exact) → K (ptr lp 0) g' n') : AC layout_of_id [.agg (encH h).toArray] g n K := by
  refine ACalls.fold X0_mono ?_
  rw [← layout_of_eq]
  simp only [layout_of, kAgg_a, kFill_nil]
  intro hn
  have h1s := (Sub.refl g).new hn (some (.cells (encH h) .exact))
  have h1b : upd g n (some (.cells (encH h) .exact)) n = some (.cells (encH h) .exact) := upd_same _ _ _
  generalize upd g n (some (.cells (encH h) .exact)) = g1 at h1s h1b
  intro hn2
  have h2s := (Sub.refl g1).new hn2 (some (.cells [(.int .u32 0), (.int .i32 0), (.int .u32 0), (.bool false), (.int .i64 0), (.int .i64 0), (.int .i64 0), (.int .i64 0)] .exact))
  have h2b : upd g1 (n + 1) (some (.cells [(.int .u32 0), (.int .i32 0), (.int .u32 0), (.bool false), (.int .i64 0), (.int .i64 0), (.int .i64 0), (.int .i64 0)] .exact)) (n + 1) = some _ := upd_same _ _ _
  generalize upd g1 (n + 1) (some (.cells [(.int .u32 0), (.int .i32 0), (.int .u32 0), (.bool false), (.int .i64 0), (.int .i64 0), (.int .i64 0), (.int .i64 0)] .exact)) = g2 at h2s h2b
  intro hn3
  refine kSt_of (upd_same _ _ _) rfl (by simp) rfl ?_
  rw [upd_upd]
  have h3s := (Sub.refl g2).new hn3 (some (.cells (([.pointer none] : List Value).set 0 (ptr (n + 1) 0)) .exact))
  have h3b : upd g2 (n + 1 + 1) (some (.cells (([.pointer none] : List Value).set 0 (ptr (n + 1) 0)) .exact)) (n + 1 + 1) = some (.cells [ptr (n + 1) 0] .exact) := upd_same _ _ _
  generalize upd g2 (n + 1 + 1) (some (.cells (([.pointer none] : List Value).set 0 (ptr (n + 1) 0)) .exact)) = g3 at h3s h3b
  have b5 := h3s.live h2b
  have b1 := h3s.live (h2s.live h1b)
  have hn2' : g (n + 1) = none := h1s.none hn2
  refine kLd_of h3b rfl ?_
  simp only [kNil_p, kPtr_p]
  refine ACalls.fold X0_mono ?_
  rw [← sync_Once_Do_eq]
  simp only [sync_Once_Do, kNil_p, kPtr_p, Nat.zero_add]
  refine ACalls.fold X0_mono ?_
  rw [← sync_atomic_Bool_Load_eq]
  simp only [sync_atomic_Bool_Load, kNil_p, kPtr_p, Nat.zero_add]
  refine LoadUint32_tell (kLd_of b5 rfl ⟨rfl, ?_⟩)
  simp only [kBin_neq]
  refine aRet_of (Sub.refl _) ?_
  simp only [kUn_not]
  refine kSplit_t (by simp) (doSlow_tell ?_)
  refine ⟨by decide, kLd_of b5 rfl rfl, kLd_of b5 rfl rfl, kSt_of b5 rfl (by simp) rfl ?_⟩
  have ne15 : n ≠ n + 1 := by omega
  have ne35 : n + 1 + 1 ≠ n + 1 := by omega
  -- the closure
  refine ACalls.fold X0_mono ?_
  show abody Try.prog AC layout_of_1_id [ptr (n + 1 + 1) 0, ptr n 0] _ _ _
  rw [← layout_of_1_eq]
  simp only [layout_of_1, kPtr_p]
  refine kLd_of ((upd_ne _ _ ne35).trans h3b) rfl (ldH ((upd_ne _ _ ne15).trans b1) ?_)
  refine reckon_spec (upd_same _ _ _) (fun g6 n6 hk6 hp6 => aRet_of (Sub.refl _) ?_)
  refine ⟨kLd_of hp6 rfl rfl, kSt_of hp6 rfl (by simp [planT]) rfl (kSt_of (upd_same _ _ _) rfl (by simp [planT]) rfl (aRet_of (Sub.refl _) ?_))⟩
  rw [upd_upd]
  have hl3 : upd g6 (n + 1) (some (.cells (((([.int .u32 0, .int .i32 1, .int .u32 0] : List Value) ++ planT h).set 0 (.int .u32 1)).set (0 + 1) (.int .i32 0)) .exact)) (n + 1 + 1) = some (.cells [ptr (n + 1) 0] .exact) := by
    rw [upd_ne _ _ ne35]; exact hk6 _ _ ((upd_ne _ _ ne35).trans h3b) ne35
  refine kLd_of hl3 rfl (aRet_of (Sub.refl _) (hK _ _ _ ?_ ?_))
  · intro l
    by_cases e : l = n + 1
    · subst e; exact .inl hn2'
    · cases hl : g l with
      | none => exact .inl rfl
      | some x =>
        refine .inr ?_
        rw [upd_ne _ _ e]
        exact (hk6 l x (by rw [upd_ne _ _ e]; exact h3s.live (h2s.live (h1s.live hl))) e).symm
  · rw [upd_same]; rfl
theorem GoodH_spec {h : Hp} {K : Cont} (hK : ∀ g' n', Sub g g' → K (.bool (decide (GoodH h))) g' n') : AC layout_Good_id [.agg (encH h).toArray] g n K := by
  refine ACalls.fold X0_mono ?_
  rw [← layout_Good_eq]
  simp only [layout_Good, kAgg_a]
  intro hn
  have h1s := (Sub.refl g).new hn (some (.cells (encH h) .exact))
  refine ldH (upd_same _ _ _) (of_spec fun lp g2 n2 hs hp => ?_)
  simp only [kNil_p, kPtr_p]
  exact kLd_of hp rfl (aRet_of (Sub.refl _) (hK _ _ (h1s.trans hs)))
def begE (e : Ev) : Bool := decide (e.kind = 4) && (decide (e.line = 0) && (decide (e.word = 0) && decide (e.val = 0)))
theorem beg_spec {e : Ev} {K : Cont} (hK : ∀ g' n', Sub g g' → K (.bool (begE e)) g' n') : AC serial_begins_id [.agg (encE e).toArray] g n K := by
  refine ACalls.fold X0_mono ?_
  rw [← serial_begins_eq]
  simp only [serial_begins, kAgg_a]
  intro hn
  have hu := (Sub.refl g).new hn (some (.cells (encE e) .exact))
  have hb : upd g n (some (.cells (encE e) .exact)) n = some (.cells (encE e) .exact) := upd_same _ _ _
  generalize upd g n (some (.cells (encE e) .exact)) = g1 at hu hb
  have hK1 : ∀ m, K (.bool (begE e)) g1 m := fun m => hK _ _ hu
  repeat' first
    | (refine kLd_of hb rfl ?_)
    | (refine kSplit_d (fun _ => ?_) (fun _ => ?_))
    | (refine aRet_of (Sub.refl _) (leafB hK1 ?_))
    | (rw [kBin_eql])
  all_goals simp_all [begE]
theorem rbeg_spec {e : Ev} {K : Cont} (hK : ∀ g' n', Sub g g' → K (.bool (begE e)) g' n') : AC bellowsref28_begins_id [.agg (encE e).toArray] g n K := by
  refine ACalls.fold X0_mono ?_
  rw [← bellowsref28_begins_eq]
  simp only [bellowsref28_begins, kAgg_a]
  intro hn
  have hu := (Sub.refl g).new hn (some (.cells (encE e) .exact))
  have hb : upd g n (some (.cells (encE e) .exact)) n = some (.cells (encE e) .exact) := upd_same _ _ _
  generalize upd g n (some (.cells (encE e) .exact)) = g1 at hu hb
  have hK1 : ∀ m, K (.bool (begE e)) g1 m := fun m => hK _ _ hu
  repeat' first
    | (refine kLd_of hb rfl ?_)
    | (refine kSplit_d (fun _ => ?_) (fun _ => ?_))
    | (refine aRet_of (Sub.refl _) (leafB hK1 ?_))
    | (rw [kBin_eql])
  all_goals simp_all [begE]
/-- up to the first failure -/
def firstE (l : List Ev) : List Ev := l.takeWhile fun e => !decide (e.kind = 11)
theorem firstE_take {l : List Ev} {j : Nat} (h : ∀ e ∈ l.take j, e.kind ≠ 11) : firstE l = l.take j ++ firstE (l.drop j) := by
  conv => lhs; rw [← List.take_append_drop j l]
  unfold firstE
  rw [List.takeWhile_append_of_pos]
  intro e he; simp [h e he]
theorem First_spec {v : Value} {xs : List Ev} (hv : Sl encE 5 g v xs) (hc : Cap v 5) (hlen : xs.length < 1000000) {K : Cont} (hK : ∀ v' n', Sl encE 5 g v' (firstE xs) → K v' g n') : AC bellowsref28_First_id [v] g n K := by
  refine ACalls.fold X0_mono ?_
  rw [← bellowsref28_First_eq]
  simp only [bellowsref28_First]
  refine lfp_ind (m := xs.length) (Inv := fun m t g2 n2 => ∃ j : Nat, m + j = xs.length ∧ g2 = g ∧ t 0 = v ∧ t 3 = .int .i64 (j : Nat) ∧ ∀ e ∈ xs.take j, e.kind ≠ 11) ?_ ⟨0, by omega, rfl, rfl, rfl, by simp⟩
  rintro I m t g2 n2 ih ⟨j, hm, rfl, t0, t3, hall⟩
  simp only [bellowsref28_First_l1, t0, t3]
  refine hv.len ?_
  rw [kBin_lss]
  refine kSplit_d (fun hj => ?_) (fun hj => ?_)
  · have hj : j < xs.length := by omega
    have hget : xs[j]? = some xs[j] := List.getElem?_eq_getElem hj
    generalize xs[j] = e at hget
    refine hv.idx encE_len hget (fun l o ha => ?_)
    simp only [kPtr_p]
    refine ha.ld (i := 0) rfl ?_
    rw [kBin_eql]
    refine kSplit_d (fun he => ?_) (fun he => ?_)
    · refine hv.to encE_len hc (by omega) (fun v' h' _ => aRet_of (Sub.refl _) (hK _ _ ?_))
      rw [firstE_take hall, drop_get hget]
      have : firstE (e :: xs.drop (j + 1)) = [] := by simp [firstE, he]
      rw [this, List.append_nil]; exact h'
    · rw [kBin_add, wrap64_of (by omega) (by omega), show ((j : Nat) : Int) + 1 = ((j + 1 : Nat) : Int) by omega]
      refine ih (m - 1) _ _ _ (by omega) ⟨j + 1, by omega, rfl, t0, rfl, fun x hx => ?_⟩
      rw [take_add hget] at hx
      rcases List.mem_append.1 hx with hx | hx
      · exact hall x hx
      · simp at hx; subst hx; exact he
  · refine aRet_of (Sub.refl _) (hK _ _ ?_)
    have : firstE xs = xs := by
      have := firstE_take (l := xs) (j := xs.length) (by rw [List.take_of_length_le (by omega)] at hall; rw [List.take_length]; exact hall)
      rw [this, List.take_length, List.drop_length]; simp [firstE]
    rw [this]; exact hv
end Go.Proofs.Ytldlimkjhppjbaa.Gen

namespace Go.Proofs.Ytldlimkjhppjbaa.Abs
open Go Go.RowKit
variable {g : G} {n : Nat}
theorem OwnS.updMap {α : Type} {enc : α → List Value} {z : Nat} {v : Value} {xs : List α} {lm : Nat} {es : List (Value × Value)} (b : Option Blk) (h : OwnS enc z none0 g v xs) (hm : g lm = some (.map es)) : OwnS enc z none0 (upd g lm b) v xs := by
  rcases h with h | ⟨l, c, bk, rfl, hg, h0, hl⟩
  · exact .inl h
  · refine .inr ⟨l, c, bk, rfl, ?_, h0, hl⟩
    rw [upd_ne]; exact hg
    rintro rfl; rw [hm] at hg; cases hg
theorem Sl.updMap {α : Type} {enc : α → List Value} {z : Nat} {v : Value} {xs : List α} {lm : Nat} {es : List (Value × Value)} (b : Option Blk) (h : Sl enc z g v xs) (hm : g lm = some (.map es)) : Sl enc z (upd g lm b) v xs := by
  obtain ⟨a, c, rfl, hl, ha, h⟩ := h
  refine ⟨a, c, rfl, hl, ha, fun h0 => ?_⟩
  obtain ⟨l, o, bs, bk, rfl, hg, h3⟩ := h h0
  refine ⟨l, o, bs, bk, rfl, ?_, h3⟩
  rw [upd_ne]; exact hg
  rintro rfl; rw [hm] at hg; cases hg
end Go.Proofs.Ytldlimkjhppjbaa.Abs
namespace Go.Proofs.Ytldlimkjhppjbaa.Gen
open Go Go.Proofs.Ytldlimkjhppjbaa.Abs Go.RowKit
variable {g : G} {n : Nat}
def encJ (p : Int × Int) : List Value := [.int .i64 p.1, .int .i64 p.2]
theorem encJ_len (p : Int × Int) : (encJ p).length = 2 := rfl
theorem encJ_cell (p : Int × Int) : ∀ v ∈ encJ p, isCell v = true := by simp [encJ, isCell]
def countP (c : Int) (out : List (Int × Int)) : Nat := (out.filter fun p => decide (p.1 = c)).length
def begStep (out : List (Int × Int)) (e : Ev) : List (Int × Int) := if begE e = true then out ++ [(e.core, (countP e.core out : Int))] else out
def begF (l : List Ev) : List (Int × Int) := (firstE l).foldl begStep []
def begH (h : Hp) (l : List Ev) : List (Int × Int) := if GoodH h then begF l else []
theorem countP_snoc (c d x : Int) (out : List (Int × Int)) : countP c (out ++ [(d, x)]) = if c = d then countP c out + 1 else countP c out := by
  unfold countP
  rw [List.filter_append, List.length_append]
  by_cases h : c = d
  · simp [h]
  · simp [h, show ¬ d = c from fun e => h e.symm]
theorem countP_le (c : Int) (out : List (Int × Int)) : countP c out ≤ out.length := List.length_filter_le _ _
theorem beg_len : ∀ (l : List Ev) (out : List (Int × Int)), (l.foldl begStep out).length ≤ out.length + l.length
  | [], out => by simp
  | e :: l, out => by
    rw [List.foldl_cons]
    refine Nat.le_trans (beg_len l _) ?_
    unfold begStep
    split <;> simp <;> omega
theorem firstE_len (l : List Ev) : (firstE l).length ≤ l.length := (List.takeWhile_prefix _).length_le
theorem cut_head : ∀ (l : List Ev) (ps : List (List Ev)) (cur : List Ev), ((l.foldl cutStep (ps, cur)).1 ++ [(l.foldl cutStep (ps, cur)).2])[0]? = some (match ps with | [] => cur ++ firstE l | p :: _ => p)
  | [], ps, cur => by cases ps <;> simp [firstE]
  | e :: l, ps, cur => by
    rw [List.foldl_cons]
    by_cases h : e.kind = 11
    · have e1 : cutStep (ps, cur) e = (ps ++ [cur], []) := by simp [cutStep, h]
      rw [e1, cut_head l]
      cases ps <;> simp [firstE, h]
    · have e1 : cutStep (ps, cur) e = (ps, cur ++ [e]) := by simp [cutStep, h]
      rw [e1, cut_head l]
      cases ps <;> simp [firstE, h]
theorem cutF_head (l : List Ev) : (cutF l)[0]? = some (firstE l) := by
  have := cut_head l [] []
  simpa [cutF, cutP] using this
abbrev evI (x : Int) : Value := .int .i64 x
theorem fillJ (a b : Int) (K : List Value → Prop) (k : K (encJ (a, b))) : kFill [(.int .i64 0), (.int .i64 0)] [(0, none, .int .i64 a), (1, none, .int .i64 b)] K := ⟨rfl, by simp, rfl, by simp, k⟩
theorem fillJ1 (p : Int × Int) (K : List Value → Prop) (k : K (encJ p)) : kFill (reps 1 [(.int .i64 0), (.int .i64 0)]) [(0, (some 2), .agg (encJ p).toArray)] K := ⟨rfl, by simp [reps, encJ], k⟩
theorem ldE {l : Nat} {x : Ev} {bk : BK} {K : List Value → Prop} (h : g l = some (.cells (encE x) bk)) (k : K (encE x)) : kLdN g l 0 5 K := by
  refine kLdN_of h (by rw [encE_len]; decide) ?_
  rw [List.drop_zero, List.take_of_length_le (by rw [encE_len]; exact Nat.le_refl _)]; exact k
/-- an event is copied into a block of its own -/
theorem copyE {e : Ev} {z : List Value} {K : G → Prop} (hn : g n = none) (hz : z.length = 5) (k : Sub g (upd g n (some (.cells (encE e) .exact))) → upd g n (some (.cells (encE e) .exact)) n = some (.cells (encE e) .exact) → K (upd g n (some (.cells (encE e) .exact)))) :
    kAgg (.agg (encE e).toArray) fun cs => cs.length = 5 ∧ kStN (upd g n (some (.cells z .exact))) n 0 cs K := by
  refine ⟨rfl, kStN_of (upd_same _ _ _) rfl (by rw [hz]; simp [encE]) (encE_cell e) ?_⟩
  have e1 : splice z 0 (encE e).toArray.toList = encE e := by unfold splice; simp [encE, hz]
  rw [e1, upd_upd]
  exact k ((Sub.refl g).new hn _) (upd_same _ _ _)
theorem Begins_spec {h : Hp} {v : Value} {xs : List Ev} (hv : Sl encE 5 g v xs) (hlen : xs.length < 1000000) {K : Cont}
    (hK : ∀ v' g' n', Sub g g' → OwnS encJ 2 none0 g' v' (begH h xs) → (∀ l ∈ blks v', g l = none) → K v' g' n') : AC serial_Begins_id [.agg (encH h).toArray, v] g n K := by
  refine ACalls.fold X0_mono ?_
  rw [← serial_Begins_eq]
  simp only [serial_Begins, kAgg_a]
  intro hn
  have s1 := (Sub.refl g).new hn (some (.cells (encH h) .exact))
  refine ldH (upd_same _ _ _) (GoodH_spec fun g2 n2 s2 => ?_)
  rw [kUn_not]
  have s12 := s1.trans s2
  by_cases hG : GoodH h
  · have eB : begH h xs = begF xs := by unfold begH; rw [if_pos hG]
    rw [eB] at hK
    refine kSplit_f (by simp [hG]) (fun hn2 => ?_)
    have s3 := (Sub.refl g2).new hn2 (some (.map []))
    have s13 := s12.trans s3
    refine Cut_spec (hv.mono s13) hlen (fun v4 g4 n4 s4 hp4 => ?_)
    have hm4 : g4 n2 = some (.map []) := s4.live (upd_same _ _ _)
    refine hp4.get (j := 0) rfl (cutF_head xs) (fun l o c hc hld => ?_)
    rw [kPtr_p]
    refine hld _ (hc.len ?_)
    have hfl := firstE_len xs
    -- the heap without the map
    have hgb : Sub g (upd g4 n2 none) := fun l => by
      by_cases e : l = n2
      · subst e; exact .inl (s12.none hn2)
      · rw [upd_ne _ _ e]; exact (s13.trans s4) l
    have hcb := hc.updMap none hm4
    refine lfp_ind (m := (firstE xs).length) (Inv := fun m t g5 n5 => ∃ (j : Nat) (w : Value) (ms : List (Int × Int)), m + j = (firstE xs).length ∧ t 16 = c ∧ t 17 = .int .i64 ((firstE xs).length : Nat) ∧ t 18 = .int .i64 (j : Nat) ∧ t 5 = .map (some n2) ∧ t 6 = w ∧
      Sub (upd g4 n2 none) g5 ∧ g5 n2 = some (.map (MpE evI .i64 ms)) ∧ (∀ k, (mget ms k).getD 0 = (countP k (((firstE xs).take j).foldl begStep []) : Int)) ∧ OwnS encJ 2 none0 g5 w (((firstE xs).take j).foldl begStep []) ∧ (∀ l ∈ blks w, upd g4 n2 none l = none) ∧ n2 ∉ blks w ∧ (∀ l ∈ blks w, ∃ b, g5 l = some b)) ?_ ?_
    · rintro I m t g5 n5 ih ⟨j, w, ms, hm, t16, t17, t18, t5, t6, hs, hmap, hcnt, how, hfr, hnw, hlv⟩
      simp only [serial_Begins_l1, t16, t17, t18, t5, t6, kBin_lss]
      refine kSplit_d (fun hj => ?_) (fun hj => ?_)
      · have hj : j < (firstE xs).length := by omega
        have hget : (firstE xs)[j]? = some (firstE xs)[j] := List.getElem?_eq_getElem hj
        generalize (firstE xs)[j] = e at hget
        have hstep : ((firstE xs).take (j + 1)).foldl begStep [] = begStep (((firstE xs).take j).foldl begStep []) e := by rw [take_add hget, List.foldl_append]; rfl
        have hol := beg_len ((firstE xs).take j) []
        rw [List.length_take] at hol
        simp only [List.length_nil] at hol
        generalize hout : ((firstE xs).take j).foldl begStep [] = out at *
        refine (hcb.mono hs).idx encE_len hget (fun l o ha => ?_)
        simp only [kPtr_p]
        refine ha.ldN rfl (fun hn5 => copyE hn5 rfl fun s6 hb6 => ?_)
        generalize upd g5 n5 (some (.cells (encE e) .exact)) = g6 at s6 hb6
        refine ldE hb6 (beg_spec fun g7 n7 s7 => ?_)
        have s57 := s6.trans s7
        have hb7 := s7.live hb6
        have go : ∀ (t' : Env) (g' : G) (n' : Nat) (w' : Value) (ms' : List (Int × Int)), t' 16 = c → t' 17 = .int .i64 ((firstE xs).length : Nat) → t' 18 = .int .i64 ((j + 1 : Nat) : Int) → t' 5 = .map (some n2) → t' 6 = w' →
            Sub (upd g4 n2 none) g' → g' n2 = some (.map (MpE evI .i64 ms')) → (∀ k, (mget ms' k).getD 0 = (countP k (begStep out e) : Int)) → OwnS encJ 2 none0 g' w' (begStep out e) → (∀ l ∈ blks w', upd g4 n2 none l = none) → n2 ∉ blks w' → (∀ l ∈ blks w', ∃ b, g' l = some b) → I t' g' n' :=
          fun t' g' n' w' ms' q1 q2 q3 q4 q5 q6 q7 q8 q9 q10 q11 q12 => ih (m - 1) _ _ _ (by omega) ⟨j + 1, w', ms', by omega, q1, q2, q3, q4, q5, q6, q7, by rw [hstep]; exact q8, by rw [hstep]; exact q9, q10, q11, q12⟩
        cases hbe : begE e with
        | false =>
          have eo : begStep out e = out := by unfold begStep; rw [hbe]; simp
          refine kSplit_f rfl ?_
          rw [kBin_add, wrap64_of (by omega) (by omega), show ((j : Nat) : Int) + 1 = ((j + 1 : Nat) : Int) by omega]
          exact go _ _ _ w ms t16 t17 rfl t5 t6 (hs.trans s57) (s57.live hmap) (by rw [eo]; exact hcnt) (by rw [eo]; exact how.mono s57) hfr hnw (fun l hl => let ⟨b, hb⟩ := hlv l hl; ⟨b, s57.live hb⟩)
        | true =>
          have eo : begStep out e = out ++ [(e.core, (countP e.core out : Int))] := by unfold begStep; rw [if_pos hbe]
          refine kSplit_t rfl (kLd_of hb7 rfl (kLd_of hb7 rfl (kLookup_m (s57.live hmap) ?_)))
          have elook : optV evI (.int .i64 0) (mget ms e.core) = .int .i64 (countP e.core out : Int) := by
            have := hcnt e.core
            cases hq : mget ms e.core with
            | none => rw [hq] at this; simp at this; simp [optV, ← this]
            | some x => rw [hq] at this; simp at this; simp [optV, this]
          rw [elook]
          refine fillJ _ _ _ (fillJ1 _ _ fun hn7 => ?_)
          have s8 := (Sub.refl g7).new hn7 (some (.cells (encJ (e.core, (countP e.core out : Int))) .exact))
          have hx8 : Sl encJ 2 (upd g7 n7 (some (.cells (encJ (e.core, (countP e.core out : Int))) .exact))) (.slice (some ⟨n7, 0, none⟩) 1 1) [(e.core, (countP e.core out : Int))] := Sl.one rfl (upd_same _ _ _)
          have s58 := s57.trans s8
          refine own_app (g := upd g7 n7 (some (.cells (encJ (e.core, (countP e.core out : Int))) .exact))) (how.mono s58) hx8 encJ_cell (by decide) (by simp; omega) (by simp; omega) (by simp) (fun w' g9 n9 ho9 hk9 hf9 => ?_)
          have hm9 : g9 n2 = some (.map (MpE evI .i64 ms)) := hk9 _ _ (s58.live hmap) hnw
          have hnw' : n2 ∉ blks w' := fun hm => by have := hf9 _ hm; rw [s58.live hmap] at this; cases this
          have hn5w : n5 ∉ blks w := fun hm => by obtain ⟨b, hb⟩ := hlv n5 hm; rw [hn5] at hb; cases hb
          have hlb : g9 n5 = some (.cells (encE e) .exact) := hk9 _ _ (s8.live hb7) hn5w
          refine kLd_of hlb rfl (kLookup_m hm9 ?_)
          rw [elook, kBin_add, wrap64_of (by have := countP_le e.core out; omega) (by have := countP_le e.core out; omega)]
          refine kMapSet_m (ev := evI) (x := (countP e.core out : Int) + 1) hm9 ?_
          rw [kBin_add, wrap64_of (by omega) (by omega), show ((j : Nat) : Int) + 1 = ((j + 1 : Nat) : Int) by omega]
          refine go _ _ _ w' _ t16 t17 rfl t5 rfl ?_ (upd_same _ _ _) ?_ (by rw [eo]; exact ho9.updMap _ hm9) ?_ hnw' ?_
          · intro l
            by_cases el : l = n2
            · subst el; exact .inl (upd_same _ _ _)
            · cases hgl : upd g4 n2 none l with
              | none => exact .inl rfl
              | some b =>
                refine .inr ?_
                rw [upd_ne _ _ el]
                exact (hk9 l b (s58.live (hs.live hgl)) (fun hm => by rw [hfr l hm] at hgl; cases hgl)).symm
          · intro k
            rw [mget_mput, eo, countP_snoc]
            by_cases hk : k = e.core
            · subst hk; simp
            · rw [if_neg hk, if_neg hk]; exact hcnt k
          · intro l hl
            exact hs.none (s58.none (hf9 l hl))
          · intro l hl
            obtain ⟨b, hb⟩ := ho9.there l hl (by simp)
            refine ⟨b, ?_⟩
            rw [upd_ne]; exact hb
            rintro rfl; exact hnw' hl
      · have hje : (firstE xs).take j = firstE xs := List.take_of_length_le (by omega)
        rw [hje] at how
        rw [← t6] at *
        exact aRet_of (Sub.refl _) (hK _ _ _ (hgb.trans hs) how (fun l hl => by
          have := hfr l hl
          cases hg : g l with
          | none => rfl
          | some b => rw [hgb.live hg] at this; cases this))
    · exact ⟨0, .slice none 0 0, [], by omega, rfl, rfl, rfl, rfl, rfl, (by intro l; by_cases e : l = n2; exact .inl (by subst e; exact upd_same _ _ _); exact .inr (upd_ne _ _ e)), hm4, (by intro k; simp [mget, countP]), OwnS.nil, by simp [blks, blkOf], by simp [blks, blkOf], by simp [blks, blkOf]⟩
  · have eB : begH h xs = [] := by unfold begH; rw [if_neg hG]
    rw [eB] at hK
    exact kSplit_t (by simp [hG]) (aRet_of (Sub.refl _) (hK _ _ _ s12 OwnS.nil (by simp [blks, blkOf])))
end Go.Proofs.Ytldlimkjhppjbaa.Gen

namespace Go.Proofs.Ytldlimkjhppjbaa.Gen
open Go Go.Proofs.Ytldlimkjhppjbaa.Abs Go.RowKit
variable {g : G} {n : Nat}
theorem countP_take {out : List (Int × Int)} {k : Nat} {p : Int × Int} (h : out[k]? = some p) (c : Int) : countP c (out.take (k + 1)) = if c = p.1 then countP c (out.take k) + 1 else countP c (out.take k) := by
  rw [take_add h]; exact countP_snoc c p.1 p.2 _
theorem rBegins_spec {h : Hp} {v : Value} {xs : List Ev} (hv : Sl encE 5 g v xs) (hcap : Cap v 5) (hlen : xs.length < 1000000) {K : Cont}
    (hK : ∀ v' g' n', Sub g g' → OwnS encJ 2 none0 g' v' (begH h xs) → (∀ l ∈ blks v', g l = none) → K v' g' n') : AC bellowsref28_Begins_id [.agg (encH h).toArray, v] g n K := by
  refine ACalls.fold X0_mono ?_
  rw [← bellowsref28_Begins_eq]
  simp only [bellowsref28_Begins, kAgg_a]
  intro hn
  have s1 := (Sub.refl g).new hn (some (.cells (encH h) .exact))
  refine ldH (upd_same _ _ _) (rGoodH_spec fun g2 n2 s2 => ?_)
  rw [kUn_not]
  have s12 := s1.trans s2
  by_cases hG : GoodH h
  · have eB : begH h xs = begF xs := by unfold begH; rw [if_pos hG]
    rw [eB] at hK
    refine kSplit_f (by simp [hG]) (First_spec (hv.mono s12) hcap hlen fun c n3 hc => ?_)
    have hfl := firstE_len xs
    refine lfp_ind (m := (firstE xs).length) (Inv := fun m t g5 n5 => ∃ (j : Nat) (w : Value), m + j = (firstE xs).length ∧ t 1 = c ∧ t 6 = .int .i64 (j : Nat) ∧ t 5 = w ∧ Sub g2 g5 ∧ OwnS encJ 2 none0 g5 w (((firstE xs).take j).foldl begStep []) ∧ (∀ l ∈ blks w, g2 l = none)) ?_ ?_
    · rintro I m t g5 n5 ih ⟨j, w, hm, t1, t6, t5, hs, how, hfr⟩
      simp only [bellowsref28_Begins_l1, t1, t6]
      refine (hc.mono hs).len ?_
      rw [kBin_lss]
      refine kSplit_d (fun hj => ?_) (fun hj => ?_)
      · have hj : j < (firstE xs).length := by omega
        have hget : (firstE xs)[j]? = some (firstE xs)[j] := List.getElem?_eq_getElem hj
        generalize (firstE xs)[j] = e at hget
        have hstep : ((firstE xs).take (j + 1)).foldl begStep [] = begStep (((firstE xs).take j).foldl begStep []) e := by rw [take_add hget, List.foldl_append]; rfl
        have hol := beg_len ((firstE xs).take j) []
        rw [List.length_take] at hol
        simp only [List.length_nil] at hol
        generalize hout : ((firstE xs).take j).foldl begStep [] = out at *
        have go : ∀ (t' : Env) (g' : G) (n' : Nat) (w' : Value), t' 1 = c → t' 6 = .int .i64 (j : Nat) → t' 5 = w' → Sub g2 g' → OwnS encJ 2 none0 g' w' (begStep out e) → (∀ l ∈ blks w', g2 l = none) → bellowsref28_Begins_j2 AC K I t' g' n' := by
          intro t' g' n' w' q1 q2 q3 q4 q5 q6
          simp only [bellowsref28_Begins_j2, q2]
          rw [kBin_add, wrap64_of (by omega) (by omega), show ((j : Nat) : Int) + 1 = ((j + 1 : Nat) : Int) by omega]
          exact ih (m - 1) _ _ _ (by omega) ⟨j + 1, w', by omega, q1, rfl, q3, q4, by rw [hstep]; exact q5, q6⟩
        refine (hc.mono hs).idx encE_len hget (fun l o ha => ?_)
        simp only [kPtr_p]
        refine ha.ldN rfl (rbeg_spec fun g7 n7 s7 => ?_)
        rw [kUn_not]
        cases hbe : begE e with
        | false =>
          have eo : begStep out e = out := by unfold begStep; rw [hbe]; simp
          exact kSplit_t rfl (go _ _ _ w t1 t6 t5 (hs.trans s7) (by rw [eo]; exact how.mono s7) hfr)
        | true =>
          have eo : begStep out e = out ++ [(e.core, (countP e.core out : Int))] := by unfold begStep; rw [if_pos hbe]
          refine kSplit_f rfl ?_
          have how7 := how.mono s7
          have hc7 := (hc.mono hs).mono s7
          -- the counting loop
          refine lfp_ind (m := out.length) (Inv := fun m t g8 n8 => ∃ k : Nat, m + k = out.length ∧ g8 = g7 ∧ t 1 = c ∧ t 6 = .int .i64 (j : Nat) ∧ t 5 = w ∧ t 7 = .int .i64 (countP e.core (out.take k) : Int) ∧ t 8 = .int .i64 (k : Nat)) ?_ ⟨0, by omega, rfl, t1, t6, t5, rfl, rfl⟩
          rintro I3 m3 t3 g8 n8 ih3 ⟨k, hm3, rfl, q1, q6, q5, q7, q8⟩
          simp only [bellowsref28_Begins_l3, q1, q6, q5, q7, q8]
          refine how7.sl.len ?_
          rw [kBin_lss]
          refine kSplit_d (fun hk => ?_) (fun hk => ?_)
          · have hk : k < out.length := by omega
            have hgk : out[k]? = some out[k] := List.getElem?_eq_getElem hk
            generalize out[k] = p at hgk
            have hct := countP_take hgk e.core
            have hcl := countP_le e.core (out.take k)
            rw [List.length_take] at hcl
            refine how7.sl.idx encJ_len hgk (fun l o ha => ?_)
            refine ⟨by decide, by decide, ?_⟩
            simp only [kPtr_p]
            refine ha.ld (i := 0) (v := .int .i64 p.1) rfl ?_
            refine hc7.idx encE_len hget (fun l o ha => ?_)
            simp only [kPtr_p]
            refine ha.ld (i := 1) rfl ?_
            rw [kBin_eql]
            refine kSplit_d (fun hpe => ?_) (fun hpe => ?_)
            · rw [kBin_add, wrap64_of (by omega) (by omega)]
              simp only [bellowsref28_Begins_j4]
              show kBin .int .add (t3 8) (.int .i64 1) _
              rw [q8, kBin_add, wrap64_of (by omega) (by omega), show ((k : Nat) : Int) + 1 = ((k + 1 : Nat) : Int) by omega]
              refine ih3 (m3 - 1) _ _ _ (by omega) ⟨k + 1, by omega, rfl, q1, q6, q5, ?_, rfl⟩
              rw [hct, if_pos hpe.symm]
              show Value.int .i64 _ = _
              congr 1
            · simp only [bellowsref28_Begins_j4]
              show kBin .int .add (t3 8) (.int .i64 1) _
              rw [q8, kBin_add, wrap64_of (by omega) (by omega), show ((k : Nat) : Int) + 1 = ((k + 1 : Nat) : Int) by omega]
              refine ih3 (m3 - 1) _ _ _ (by omega) ⟨k + 1, by omega, rfl, q1, q6, q5, ?_, rfl⟩
              rw [hct, if_neg (fun h => hpe h.symm)]
              exact q7
          · simp only [bellowsref28_Begins_j5]
            have hke : out.take k = out := List.take_of_length_le (by omega)
            rw [hke] at q7
            show kIndexAddr (t3 1) (t3 6) 5 _
            rw [q1, q6]
            refine hc7.idx encE_len hget (fun l o ha => ?_)
            simp only [kPtr_p]
            refine ha.ld (i := 1) rfl ?_
            show kFill _ [(0, none, .int .i64 e.core), (1, none, t3 7)] _
            rw [q7]
            refine fillJ _ _ _ (fillJ1 _ _ fun hn7 => ?_)
            have s8 := (Sub.refl g8).new hn7 (some (.cells (encJ (e.core, (countP e.core out : Int))) .exact))
            have hx8 : Sl encJ 2 (upd g8 n8 (some (.cells (encJ (e.core, (countP e.core out : Int))) .exact))) (.slice (some ⟨n8, 0, none⟩) 1 1) [(e.core, (countP e.core out : Int))] := Sl.one rfl (upd_same _ _ _)
            show kAppend (t3 5) _ 2 16 _ _ _
            rw [q5]
            refine own_app (g := upd g8 n8 (some (.cells (encJ (e.core, (countP e.core out : Int))) .exact))) (how7.mono s8) hx8 encJ_cell (by decide) (by simp; omega) (by simp; omega) (by simp) (fun w' g9 n9 ho9 hk9 hf9 => ?_)
            have s28 := (hs.trans s7).trans s8
            refine go _ _ _ w' q1 q6 rfl ?_ (by rw [eo]; exact ho9) (fun l hl => s28.none (hf9 l hl))
            intro l
            cases hgl : g2 l with
            | none => exact .inl rfl
            | some b => exact .inr (hk9 l b (s28.live hgl) (fun hm => by rw [hfr l hm] at hgl; cases hgl)).symm
      · have hje : (firstE xs).take j = firstE xs := List.take_of_length_le (by omega)
        rw [hje] at how
        rw [t5]
        exact aRet_of (Sub.refl _) (hK _ _ _ (s12.trans hs) how (fun l hl => s12.none (hfr l hl)))
    · exact ⟨0, .slice none 0 0, by omega, rfl, rfl, rfl, Sub.refl _, OwnS.nil, by simp [blks, blkOf]⟩
  · have eB : begH h xs = [] := by unfold begH; rw [if_neg hG]
    rw [eB] at hK
    exact kSplit_t (by simp [hG]) (aRet_of (Sub.refl _) (hK _ _ _ s12 OwnS.nil (by simp [blks, blkOf])))
end Go.Proofs.Ytldlimkjhppjbaa.Gen

namespace Go.Proofs.Ytldlimkjhppjbaa.Abs
open Go Go.RowKit
variable {g : G} {n : Nat}
/-! ## a slice of one's own of slices of one's own -/
def encV (c : Value) : List Value := [c]
theorem encV_len (c : Value) : (encV c).length = 1 := rfl
def ssF (v : Value) (cs : List Value) : List Nat := blks v ++ cs.flatMap blks
structure SS {α : Type} (enc : α → List Value) (z : Nat) (g : G) (v : Value) (cs : List Value) (xss : List (List α)) : Prop where
  ho : OwnS encV 1 none0 g v cs
  len : cs.length = xss.length
  he : ∀ (i : Nat) (c : Value) (xs : List α), cs[i]? = some c → xss[i]? = some xs → OwnS enc z none0 g c xs
  ob : (cs = [] ∧ blks v = []) ∨ (cs ≠ [] ∧ ∃ lv, blks v = [lv] ∧ Ob g lv cs)
section
variable {α : Type} {enc : α → List Value} {z : Nat} {v : Value} {cs : List Value} {xss : List (List α)}
theorem SS.nil : SS enc z g (.slice none 0 0) [] ([] : List (List α)) := ⟨OwnS.nil, rfl, by simp, .inl ⟨rfl, by simp [blks, blkOf]⟩⟩
theorem OwnS.blk1 {β : Type} {e : β → List Value} {z : Nat} {g0 : G} {xs : List β} (h : OwnS e z g0 g v xs) (hne : xs ≠ []) : ∃ l cc bk, blks v = [l] ∧ v = .slice (some ⟨l, 0, none⟩) xs.length cc ∧ g l = some (.cells (xs.map e).flatten bk) := by
  rcases h with ⟨h0, _⟩ | ⟨l, c, bk, rfl, hg, _⟩
  · exact absurd (List.eq_nil_of_length_eq_zero h0) hne
  · exact ⟨l, c, bk, by simp [blks, blkOf], rfl, hg⟩
theorem SS.liveF (h : SS enc z g v cs xss) : ∀ l ∈ ssF v cs, ∃ b, g l = some b := by
  intro l hl
  rcases h.ob with ⟨rfl, hb⟩ | ⟨hne, lv, hb, o⟩
  · simp [ssF, hb] at hl
  · unfold ssF at hl; rw [hb] at hl
    rcases List.mem_append.1 hl with h1 | h1
    · simp at h1; subst h1
      obtain ⟨l', cc, bk, hb', _, hg⟩ := h.ho.blk1 hne
      rw [hb] at hb'; simp at hb'; subst hb'; exact ⟨_, hg⟩
    · exact o.live l h1
theorem SS.keep {g' : G} (h : SS enc z g v cs xss) (hk : ∀ l b, g l = some b → l ∈ ssF v cs → g' l = some b) : SS enc z g' v cs xss := by
  refine ⟨h.ho.keepB fun l b h1 h2 => hk l b h1 (List.mem_append.2 (.inl h2)), h.len, fun i c xs hc hx => (h.he i c xs hc hx).keepB fun l b h1 h2 => hk l b h1 (List.mem_append.2 (.inr (List.mem_flatMap.2 ⟨c, List.mem_of_getElem? hc, h2⟩))), ?_⟩
  rcases h.ob with h1 | ⟨hne, lv, hb, o⟩
  · exact .inl h1
  · exact .inr ⟨hne, lv, hb, o.keep fun l b h1 h2 => hk l b h1 (by unfold ssF; rw [hb]; exact h2)⟩
theorem SS.mono {g' : G} (h : SS enc z g v cs xss) (hs : Sub g g') : SS enc z g' v cs xss := h.keep fun _ _ hl _ => hs.live hl
theorem flatV (cs : List Value) : (cs.map encV).flatten = cs := by induction cs with
  | nil => rfl
  | cons c cs ih => simp [encV, ih]
/-- one more, empty yet -/
theorem SS.push {bytes : Nat} {K : Cont} (h : SS enc z g v cs xss) (hn : g n = none) (hb : bytes ≤ 1024) (hsz : xss.length ≤ 1000000)
    (hK : ∀ v' g' n', SS enc z g' v' (cs ++ [.slice none 0 0]) (xss ++ [[]]) → Upd (ssF v cs) (ssF v' (cs ++ [.slice none 0 0])) g g' → K v' g' n') : kAppend v (.slice (some ⟨n, 0, none⟩) 1 1) 1 bytes (upd g n (some (.cells [.slice none 0 0] .exact))) (n + 1) K := by
  have hs := (Sub.refl g).new hn (some (.cells [.slice none 0 0] .exact))
  have hl := h.len
  have hm : (cs.length + 1) * bytes ≤ 1000001 * 1024 := Nat.mul_le_mul (by omega) hb
  have ho : Own none0 (upd g n (some (.cells [.slice none 0 0] .exact))) v 1 cs.length cs := by have := (h.ho.mono hs); unfold OwnS at this; rwa [flatV] at this
  have hx : Rd (upd g n (some (.cells [.slice none 0 0] .exact))) (.slice (some ⟨n, 0, none⟩) 1 1) 1 1 [.slice none 0 0] := Rd.lit (upd_same _ _ _) rfl
  refine append_own (none0_sub _) ho hx (by simp [isCell]) (by omega) (by omega) (by omega) (fun v' g' n' _ h4 h5 h6 => ?_)
  have hk : ∀ l b, g l = some b → l ∉ blks v → g' l = some b := fun l b hl hnl => h5 l b (hs.live hl) (fun e => hnl (mem_blks.2 e))
  have hf : ∀ l ∈ blks v', g l = none := fun l hl => hs.none (h6 (by decide) l (mem_blks.1 hl))
  have ho' : OwnS encV 1 none0 g' v' (cs ++ [.slice none 0 0]) := by unfold OwnS; rw [flatV]; simpa using h4
  obtain ⟨lv, cc, bk, hbv, _, hgl⟩ := ho'.blk1 (by simp)
  have hlv : g lv = none := hf lv (by rw [hbv]; simp)
  have inner : ∀ l ∈ cs.flatMap blks, ∃ b, g l = some b ∧ g' l = some b := by
    intro l hl
    obtain ⟨b, hb⟩ := h.liveF l (List.mem_append.2 (.inr hl))
    refine ⟨b, hb, hk l b hb (fun hv => ?_)⟩
    rcases h.ob with ⟨rfl, hbn⟩ | ⟨hne, lo, hbo, o⟩
    · simp at hl
    · have nd := o.nd
      simp only [ObjF, List.nodup_cons] at nd
      rw [hbo] at hv; simp at hv; subst hv; exact nd.1 hl
  refine hK v' g' n' ⟨ho', by simp [hl], ?_, .inr ⟨by simp, lv, hbv, ?_, ?_⟩⟩ ⟨?_, ?_⟩
  · intro i c xs hc hx
    rcases Nat.lt_or_ge i cs.length with hi | hi
    · rw [List.getElem?_append_left hi] at hc
      rw [List.getElem?_append_left (by omega)] at hx
      refine (h.he i c xs hc hx).keepB fun l b h1 h2 => ?_
      obtain ⟨b', h3, h4⟩ := inner l (List.mem_flatMap.2 ⟨c, List.mem_of_getElem? hc, h2⟩)
      rw [h1] at h3; cases h3; exact h4
    · rw [List.getElem?_append_right hi] at hc
      rw [List.getElem?_append_right (by omega)] at hx
      have e1 : i - cs.length = 0 := by
        rcases Nat.eq_zero_or_pos (i - cs.length) with h | h
        · exact h
        · rw [List.getElem?_eq_none (by simp; omega)] at hc; cases hc
      have e2 : i - xss.length = 0 := by omega
      rw [e1] at hc; rw [e2] at hx
      simp at hc hx; subst hc; subst hx
      exact OwnS.nil
  · simp only [ObjF, List.flatMap_append, List.flatMap_cons, List.flatMap_nil, List.nodup_cons]
    have e0 : blks (.slice none 0 0) = [] := by simp [blks, blkOf]
    rw [e0, List.append_nil, List.append_nil]
    refine ⟨fun hm => ?_, ?_⟩
    · obtain ⟨b, hb, _⟩ := inner lv hm; rw [hlv] at hb; cases hb
    · rcases h.ob with ⟨rfl, hbn⟩ | ⟨hne, lo, hbo, o⟩
      · simp
      · have nd := o.nd; simp only [ObjF, List.nodup_cons] at nd; exact nd.2
  · intro l hl
    have e0 : blks (.slice none 0 0) = [] := by simp [blks, blkOf]
    simp only [List.flatMap_append, List.flatMap_cons, List.flatMap_nil, e0, List.append_nil] at hl
    obtain ⟨b, _, hb⟩ := inner l hl; exact ⟨b, hb⟩
  · intro l b hl hnf
    exact hk l b hl (fun hv => hnf (List.mem_append.2 (.inl hv)))
  · intro l hl
    have e0 : blks (.slice none 0 0) = [] := by simp [blks, blkOf]
    simp only [ssF, List.flatMap_append, List.flatMap_cons, List.flatMap_nil, e0, List.append_nil, List.mem_append] at hl ⊢
    rcases hl with hl | hl
    · exact .inr (hf l hl)
    · exact .inl (.inr hl)
/-- one of them was appended to: it is put in its place -/
theorem SS.setk {K : Value → Nat → Nat → G → Prop} {k : Nat} {kk : IntKind} {c c' : Value} {xs ys : List α} {g1 : G} (h : SS enc z g v cs xss) (hc : cs[k]? = some c) (hx : xss[k]? = some xs) (hk : ∀ l b, g l = some b → l ∉ blks c → g1 l = some b) (hf : ∀ l ∈ blks c', g l = none)
    (ho : OwnS enc z none0 g1 c' ys) (hy : ys ≠ []) (hK : ∀ p l o g2, SS enc z g2 v (cs.set k c') (xss.set k ys) → Upd (ssF v cs) (ssF v (cs.set k c')) g g2 → K p l o g2) :
    kIndexAddr v (.int kk k) 1 fun p => kPtr p fun l o => kSt g1 l o c' (K p l o) := by
  have hlt : k < cs.length := (List.getElem?_eq_some_iff.1 hc).1
  have hlx : k < xss.length := (List.getElem?_eq_some_iff.1 hx).1
  rcases h.ob with ⟨rfl, _⟩ | ⟨hne, lv, hbv, o⟩
  · simp at hlt
  obtain ⟨lv', cc, bk, hbv', hv, hg⟩ := h.ho.blk1 hne
  rw [hbv] at hbv'; simp at hbv'; subst hbv'
  have ecs : cs = cs.take k ++ c :: cs.drop (k + 1) := by
    conv => lhs; rw [← List.take_append_drop k cs, List.drop_eq_getElem?_toList_append, hc]
    rfl
  have eset : cs.set k c' = cs.take k ++ c' :: cs.drop (k + 1) := by rw [List.set_eq_take_append_cons_drop, if_pos hlt]
  rw [ecs] at o
  have hlvc : lv ∉ blks c := by
    have nd := o.nd
    simp only [ObjF, List.flatMap_append, List.flatMap_cons, List.nodup_cons, List.mem_append, not_or] at nd
    exact nd.1.2.1
  have ho1 : OwnS encV 1 none0 g1 v cs := h.ho.keepB fun l b h1 h2 => hk l b h1 (by rw [hbv] at h2; simp at h2; subst h2; exact hlvc)
  refine own_put (enc := encV) (z := 1) (c := 0) encV_len ho1 hc (y := c') (by decide) ho.isCell rfl (fun p l o' _ hl hown => ?_)
  rw [hbv] at hl; simp at hl; subst hl
  obtain ⟨q1, q2, q3, q4, q5⟩ := Ob.app (b1 := .cells (((cs.set k c').map encV).flatten) (bkOf 1 v)) o hg hk hf (fun l hl => ho.there l hl (by rw [ne_eq, List.length_eq_zero_iff]; exact hy))
  refine hK p l o' _ ⟨hown, by simp [h.len], ?_, .inr ⟨by rw [eset]; simp, l, hbv, by rw [eset]; rw [eset] at q1; exact q1⟩⟩ ?_
  · intro i c2 xs2 hc2 hx2
    rw [List.getElem?_set] at hc2 hx2
    by_cases hik : k = i
    · subst hik
      simp [hlt] at hc2; simp [hlx] at hx2; subst hc2; subst hx2
      exact ho.keepB (fun l b h1 h2 => by have := q3 l b h1 h2; exact this)
    · rw [if_neg hik] at hc2 hx2
      refine (h.he i c2 xs2 hc2 hx2).keepB (q2 c2 ?_)
      rcases Nat.lt_or_ge i k with hi | hi
      · exact List.mem_append.2 (.inl (List.mem_of_getElem? (i := i) (by rw [List.getElem?_take, if_pos hi]; exact hc2)))
      · exact List.mem_append.2 (.inr (List.mem_of_getElem? (i := i - (k + 1)) (by rw [List.getElem?_drop, show k + 1 + (i - (k + 1)) = i by omega]; exact hc2)))
  · have e1 : ssF v cs = ObjF l (cs.take k ++ c :: cs.drop (k + 1)) := by unfold ssF ObjF; rw [hbv, ← ecs]; rfl
    have e2 : ssF v (cs.set k c') = ObjF l (cs.take k ++ c' :: cs.drop (k + 1)) := by unfold ssF ObjF; rw [hbv, eset]; rfl
    rw [e1, e2]; exact q4
end
end Go.Proofs.Ytldlimkjhppjbaa.Abs

namespace Go.Proofs.Ytldlimkjhppjbaa.Gen
open Go Go.Proofs.Ytldlimkjhppjbaa.Abs Go.RowKit
variable {g : G} {n : Nat}
/-- a value that was told by 'or', over a guard -/
def OrS (t : Env) (p q : Nat) (x : Bool) : Prop := (t p = .bool true ∧ x = true) ∨ (t p = .bool false ∧ t q = .bool x)
def AndS (t : Env) (p q : Nat) (x : Bool) : Prop := (t p = .bool true ∧ t q = .bool x) ∨ (t p = .bool false ∧ x = false)
theorem OrS.go {t : Env} {p q : Nat} {x : Bool} {A B : Bool → Prop} (h : OrS t p q x) (hA : x = true → ∀ b, A b) (hB : x = false → ∀ b, B b) : kBool (t p) fun b => kSplit (bif b then (.bool true) else (t q)) (A b) (B b) := by
  rcases h with ⟨h1, h2⟩ | ⟨h1, h2⟩
  · rw [h1]; exact hA h2 _
  · rw [h1]; show kSplit (t q) _ _; rw [h2]; cases x with
    | true => exact hA rfl _
    | false => exact hB rfl _
theorem AndS.go {t : Env} {p q : Nat} {x : Bool} {A B : Bool → Prop} (h : AndS t p q x) (hA : x = true → ∀ b, A b) (hB : x = false → ∀ b, B b) : kBool (t p) fun b => kSplit (bif b then (t q) else (.bool false)) (A b) (B b) := by
  rcases h with ⟨h1, h2⟩ | ⟨h1, h2⟩
  · rw [h1]; show kSplit (t q) _ _; rw [h2]; cases x with
    | true => exact hA rfl _
    | false => exact hB rfl _
  · rw [h1]; exact hB h2 _
theorem Updsub {g0 g g' : G} {a b : List Nat} (hs : Sub g0 g) (ha : ∀ l ∈ a, g0 l = none) (u : Upd a b g g') : Sub g0 g' ∧ ∀ l ∈ b, g0 l = none := by
  refine ⟨fun l => ?_, fun l hl => ?_⟩
  · cases h : g0 l with
    | none => exact .inl rfl
    | some x => exact .inr (u.1 l x (hs.live h) (fun hm => by rw [ha l hm] at h; cases h)).symm
  · rcases u.2 l hl with h | h
    · exact ha l h
    · exact hs.none h
def toldStep (core : Int) (out : List (List Int)) (e : Ev) : List (List Int) :=
  if e.core = core then (if begE e = true then out ++ [[]] else if e.kind = 8 ∧ 0 < out.length then out.set (out.length - 1) (out.getD (out.length - 1) [] ++ [e.val]) else out) else out
def toldF (core : Int) (l : List Ev) : List (List Int) := (firstE l).foldl (toldStep core) []
def toldH (h : Hp) (core : Int) (l : List Ev) : List (List Int) := if GoodH h then toldF core l else []
theorem fold_filter {α β : Type} {p : α → Bool} {f : β → α → β} (hp : ∀ b a, p a = false → f b a = b) : ∀ (l : List α) (b : β), (l.filter p).foldl f b = l.foldl f b
  | [], b => rfl
  | a :: l, b => by
    rw [List.filter_cons, List.foldl_cons]
    cases h : p a with
    | true => simp only [if_true, List.foldl_cons]; exact fold_filter hp l _
    | false => simp only [Bool.false_eq_true, if_false]; rw [hp b a h]; exact fold_filter hp l b
theorem told_lens (core : Int) : ∀ (l : List Ev) (out : List (List Int)) (M : Nat), out.length ≤ M → (∀ xs ∈ out, xs.length ≤ M) → (l.foldl (toldStep core) out).length ≤ M + l.length ∧ ∀ xs ∈ l.foldl (toldStep core) out, xs.length ≤ M + l.length
  | [], out, M, h1, h2 => ⟨h1, h2⟩
  | e :: l, out, M, h1, h2 => by
    rw [List.foldl_cons, List.length_cons, show M + (l.length + 1) = (M + 1) + l.length by omega]
    refine told_lens core l _ (M + 1) ?_ ?_
    · unfold toldStep; repeat' split
      all_goals first | (rw [List.length_append]; simp only [List.length_singleton]; omega) | (rw [List.length_set]; omega) | omega
    · unfold toldStep
      repeat' split
      · intro xs hx
        rcases List.mem_append.1 hx with hx | hx
        · have := h2 xs hx; omega
        · simp at hx; subst hx; simp
      · rename_i hk
        intro xs hx
        rcases List.mem_or_eq_of_mem_set hx with hx | hx
        · have := h2 xs hx; omega
        · subst hx
          have hm : out.getD (out.length - 1) [] ∈ out := by
            rw [List.getD_eq_getElem?_getD, List.getElem?_eq_getElem (by omega)]
            exact List.getElem_mem _
          have := h2 _ hm
          rw [List.length_append]; simp only [List.length_singleton]; omega
      · intro xs hx; have := h2 xs hx; omega
      · intro xs hx; have := h2 xs hx; omega
theorem fillN (K : List Value → Prop) (k : K [.slice none 0 0]) : kFill (reps 1 [(.slice none 0 0)]) [(0, none, (.slice none 0 0))] K := ⟨rfl, by simp [reps], k⟩
theorem fillW (x : Int) (K : List Value → Prop) (k : K (encW x)) : kFill (reps 1 [(.int .u64 0)]) [(0, none, (.int .u64 x))] K := ⟨rfl, by simp [reps], k⟩
theorem SSget {w : Value} {cs : List Value} {xss : List (List Int)} {k : Nat} {kk : IntKind} {K : Value → Prop} (h : SS encW 1 g w cs xss) (hk : k < xss.length)
    (hK : ∀ l o c, (∃ b, g l = some b) → cs[k]? = some c → OwnS encW 1 none0 g c (xss.getD k []) → (∀ J : Value → Prop, J c → kLd g l o J) → K (ptr l o)) : kIndexAddr w (.int kk k) 1 K := by
  obtain ⟨c, hc⟩ : ∃ c, cs[k]? = some c := ⟨_, List.getElem?_eq_getElem (by rw [h.len]; exact hk)⟩
  have hx : xss[k]? = some (xss.getD k []) := by rw [List.getElem?_eq_getElem hk]; simp [List.getD_eq_getElem?_getD, List.getElem?_eq_getElem hk]
  refine h.ho.sl.idx encV_len hc (fun l o ha => ?_)
  refine hK l o c ?_ hc (h.he k c _ hc hx) (fun J hj => ha.ld (i := 0) rfl hj)
  obtain ⟨bs, bk, h1, _⟩ := ha
  exact ⟨_, h1⟩
/-- the last one gets a word more -/
theorem SSlast {w : Value} {cs : List Value} {xss : List (List Int)} {k : Nat} {c : Value} {x : Int} {lp op bytes : Nat} {K : Nat → Value → Value → Nat → Nat → G → Nat → Prop} (h : SS encW 1 g w cs xss) (hk : k < xss.length) (hc : cs[k]? = some c) (hb : bytes ≤ 1024) (hsz : (xss.getD k []).length ≤ 1000000) (hlp : ∃ b, g lp = some b)
    (hK : ∀ l62 v63 p l o g' n' cs', SS encW 1 g' w cs' (xss.set k (xss.getD k [] ++ [x])) → Upd (ssF w cs) (ssF w cs') g g' → K l62 v63 p l o g' n') :
    kNew (encW x) .exact g n fun l62 g10 n62 => (kPtr (ptr lp op) fun l _ => g10 l = g l) ∧ kAppend c (.slice (some ⟨l62, 0, none⟩) 1 1) 1 bytes g10 n62 fun v63 g11 n63 => kIndexAddr w (.int .i64 (k : Nat)) 1 fun v64 => kPtr v64 fun lg og => kSt g11 lg og v63 fun g12 => K l62 v63 v64 lg og g12 n63 := by
  intro hn
  have hx : xss[k]? = some (xss.getD k []) := by rw [List.getElem?_eq_getElem hk]; simp [List.getD_eq_getElem?_getD, List.getElem?_eq_getElem hk]
  have hs := (Sub.refl g).new hn (some (.cells (encW x) .exact))
  have hm : ((xss.getD k []).length + 1) * bytes ≤ 1000001 * 1024 := Nat.mul_le_mul (by omega) hb
  have h1 : [x].length = 1 := rfl
  refine ⟨?_, ?_⟩
  · obtain ⟨b, hb⟩ := hlp
    rw [kPtr_p]; exact upd_ne _ _ (ne_of_live hb hn).symm
  refine own_app (g := upd g n (some (.cells (encW x) .exact))) ((h.he k c _ hc hx).mono hs) (Sl.one (x := x) rfl (upd_same _ _ _)) encW_cell (by omega) (by rw [h1]; omega) (by rw [h1]; omega) (by simp) (fun c' g1 n1 ho hkk hf => ?_)
  exact SS.setk (K := fun p l o g2 => K n c' p l o g2 n1) h hc hx (fun l b hl hnl => hkk l b (hs.live hl) hnl) (fun l hl => hs.none (hf l hl)) ho (by simp) (fun p l o g2 h2 u2 => hK _ _ p l o g2 n1 _ h2 u2)
set_option maxHeartbeats 1000000 in
theorem Told_spec {h : Hp} {v : Value} {xs : List Ev} {core : Int} (hv : Sl encE 5 g v xs) (hlen : xs.length < 1000000) {K : Cont}
    (hK : ∀ v' cs' g' n', Sub g g' → SS encW 1 g' v' cs' (toldH h core xs) → (∀ l ∈ ssF v' cs', g l = none) → K v' g' n') : AC serial_Told_id [.agg (encH h).toArray, v, .int .i64 core] g n K := by
  refine ACalls.fold X0_mono ?_
  rw [← serial_Told_eq]
  simp only [serial_Told, kAgg_a]
  intro hn
  have s1 := (Sub.refl g).new hn (some (.cells (encH h) .exact))
  refine ldH (upd_same _ _ _) (GoodH_spec fun g2 n2 s2 => ?_)
  rw [kUn_not]
  have s12 := s1.trans s2
  by_cases hG : GoodH h
  · have eB : toldH h core xs = toldF core xs := by unfold toldH; rw [if_pos hG]
    rw [eB] at hK
    refine kSplit_f (by simp [hG]) (Cut_spec (hv.mono s12) hlen fun v4 g4 n4 s4 hp4 => ?_)
    refine hp4.get (j := 0) rfl (cutF_head xs) (fun l o c hc hld => ?_)
    rw [kPtr_p]
    have hfl := firstE_len xs
    refine hld _ (Of_spec hc (by omega) fun c5 g5 n5 s5 hc5 => ?_)
    have hs05 := (s12.trans s4).trans s5
    have hfold : ((firstE xs).filter (ofP 0 core)).foldl (toldStep core) [] = toldF core xs := by
      refine fold_filter (fun b e he => ?_) _ _
      unfold toldStep
      rw [if_neg]
      simp [ofP] at he; exact he.2
    have hfl2 : ((firstE xs).filter (ofP 0 core)).length ≤ (firstE xs).length := List.length_filter_le _ _
    have hc5 := hc5.sl
    generalize (firstE xs).filter (ofP 0 core) = ys at hfold hfl2 hc5
    refine hc5.len ?_
    refine lfp_ind (m := ys.length) (Inv := fun m t g6 n6 => ∃ (j : Nat) (w : Value) (cs : List Value), m + j = ys.length ∧ t 19 = c5 ∧ t 20 = .int .i64 (ys.length : Nat) ∧ t 21 = .int .i64 (j : Nat) ∧ t 7 = w ∧ t 2 = .int .i64 core ∧ Sub g5 g6 ∧ SS encW 1 g6 w cs ((ys.take j).foldl (toldStep core) []) ∧ (∀ l ∈ ssF w cs, g5 l = none)) ?_ ?_
    · rintro I m t g6 n6 ih ⟨j, w, cs, hm, t19, t20, t21, t7, t2, hs, hS, hfr⟩
      simp only [serial_Told_l1, t19, t20, t21, t7, t2, kBin_lss]
      refine kSplit_d (fun hj => ?_) (fun hj => ?_)
      · have hj : j < ys.length := by omega
        have hget : ys[j]? = some ys[j] := List.getElem?_eq_getElem hj
        generalize ys[j] = e at hget
        have hstep : (ys.take (j + 1)).foldl (toldStep core) [] = toldStep core ((ys.take j).foldl (toldStep core) []) e := by rw [take_add hget, List.foldl_append]; rfl
        obtain ⟨hol, hil⟩ := told_lens core (ys.take j) [] 0 (Nat.le_refl _) (by simp)
        rw [List.length_take] at hol hil
        generalize hout : (ys.take j).foldl (toldStep core) [] = out at *
        refine (hc5.mono hs).idx encE_len hget (fun l o ha => ?_)
        simp only [kPtr_p]
        refine ha.ldN rfl (fun hn6 => copyE hn6 rfl fun s7 hb7 => ?_)
        generalize upd g6 n6 (some (.cells (encE e) .exact)) = g7 at s7 hb7
        have hS7 := hS.mono s7
        refine hS7.ho.sl.len ?_
        rw [hS7.len, kBin_sub, wrap64_of (by omega) (by omega)]
        refine ldE hb7 (beg_spec fun g8 n8 s8 => ?_)
        have s68 := s7.trans s8
        have hb8 := s8.live hb7
        have hS8 := hS.mono s68
        have next : ∀ (t' : Env) (g' : G) (n' : Nat) (cs' : List Value) (w' : Value), t' 19 = c5 → t' 20 = .int .i64 (ys.length : Nat) → t' 21 = .int .i64 ((j + 1 : Nat) : Int) → t' 7 = w' → t' 2 = .int .i64 core → Upd (ssF w cs) (ssF w' cs') g8 g' → SS encW 1 g' w' cs' (toldStep core out e) → I t' g' n' := by
          intro t' g' n' cs' w' q1 q2 q3 q4 q5 u q6
          obtain ⟨u1, u2⟩ := Updsub (hs.trans s68) hfr u
          exact ih (m - 1) _ _ _ (by omega) ⟨j + 1, w', cs', by omega, q1, q2, q3, q4, q5, u1, by rw [hstep]; exact q6, u2⟩
        -- the told word
        have j2 : ∀ (t' : Env) (b : Bool), AndS t' 44 48 b → (b = true ↔ e.kind = 8 ∧ e.core = core) → begE e = false ∨ e.core ≠ core → t' 10 = .int .i64 ((out.length : Int) - 1) → t' 7 = w → t' 9 = ptr n6 0 → t' 21 = .int .i64 (j : Nat) → t' 19 = c5 → t' 20 = .int .i64 (ys.length : Nat) → t' 2 = .int .i64 core → serial_Told_j2 AC K I t' g8 n8 := by
          intro t' b hb hbi hnb t10 t7 t9 t21 t19 t20 t2
          simp only [serial_Told_j2, t10, t7, t9, t21]
          have stay : toldStep core out e = out → ∀ (t'' : Env), t'' 19 = c5 → t'' 20 = .int .i64 (ys.length : Nat) → t'' 21 = .int .i64 ((j + 1 : Nat) : Int) → t'' 7 = w → t'' 2 = .int .i64 core → I t'' g8 n8 := fun es t'' q1 q2 q3 q4 q5 =>
            next t'' g8 n8 cs w q1 q2 q3 q4 q5 (Upd.refl _ _) (by rw [es]; exact hS8)
          refine hb.go (fun hx _ => ?_) (fun hx _ => ?_)
          · obtain ⟨hk8, hcore⟩ := hbi.1 hx
            have hnb : begE e = false := by rcases hnb with h | h; exact h; exact absurd hcore h
            rw [kBin_geq]
            refine kSplit_d (fun hpos => ?_) (fun hpos => ?_)
            · have hlt : out.length - 1 < out.length := by omega
              have ek : (Value.int .i64 ((out.length : Int) - 1)) = .int .i64 ((out.length - 1 : Nat) : Int) := by congr 1; omega
              rw [ek]
              refine SSget hS8 hlt (fun l o c' hlv hc' _ hldc => ?_)
              rw [kPtr_p]
              refine hldc _ ?_
              rw [kPtr_p]
              refine kLd_of hb8 rfl (fillW _ _ ?_)
              have hin : (out.getD (out.length - 1) []).length ≤ 1000000 := by
                have := hil (out.getD (out.length - 1) []) (by rw [List.getD_eq_getElem?_getD, List.getElem?_eq_getElem hlt]; exact List.getElem_mem _)
                omega
              refine SSlast hS8 hlt hc' (by decide) hin hlv (fun l62 v63 p l o g' n' cs' h' u' => ?_)
              rw [kBin_add, wrap64_of (by omega) (by omega), show ((j : Nat) : Int) + 1 = ((j + 1 : Nat) : Int) by omega]
              refine next _ g' n' cs' w t19 t20 rfl t7 t2 u' ?_
              have es : toldStep core out e = out.set (out.length - 1) (out.getD (out.length - 1) [] ++ [e.val]) := by
                unfold toldStep; rw [if_pos hcore, hnb]; rw [if_neg (by simp), if_pos ⟨hk8, by omega⟩]
              rw [es]; exact h'
            · rw [kBin_add, wrap64_of (by omega) (by omega), show ((j : Nat) : Int) + 1 = ((j + 1 : Nat) : Int) by omega]
              refine stay ?_ _ t19 t20 rfl t7 t2
              unfold toldStep; rw [if_pos hcore, hnb]; rw [if_neg (by simp), if_neg (by omega)]
          · rw [kBin_add, wrap64_of (by omega) (by omega), show ((j : Nat) : Int) + 1 = ((j + 1 : Nat) : Int) by omega]
            refine stay ?_ _ t19 t20 rfl t7 t2
            unfold toldStep
            by_cases hcore : e.core = core
            · have hnb : begE e = false := by rcases hnb with h | h; exact h; exact absurd hcore h
              have hk8 : ¬ e.kind = 8 := fun h => by have := hbi.2 ⟨h, hcore⟩; rw [hx] at this; cases this
              rw [if_pos hcore, hnb, if_neg (by simp), if_neg (by simp [hk8])]
            · rw [if_neg hcore]
        have hcc : ∀ (b : Bool), b = decide (e.core = core) → (b = true ↔ e.core = core) := fun b hb => by subst hb; simp
        cases hbe : begE e with
        | true =>
          refine kSplit_t rfl (kLd_of hb8 rfl ?_)
          rw [kBin_eql]
          refine kSplit_d (fun hcore => ?_) (fun hcore => ?_)
          · refine fillN _ (fun hn8 => ?_)
            refine SS.push hS8 hn8 (by decide) (by omega) (fun w' g' n' h' u' => ?_)
            rw [kBin_add, wrap64_of (by omega) (by omega), show ((j : Nat) : Int) + 1 = ((j + 1 : Nat) : Int) by omega]
            refine next _ g' n' _ w' t19 t20 rfl rfl t2 u' ?_
            have es : toldStep core out e = out ++ [[]] := by unfold toldStep; rw [if_pos hcore, if_pos hbe]
            rw [es]; exact h'
          · refine kLd_of hb8 rfl ?_
            rw [kBin_eql]
            refine kSplit_d (fun h8 => ?_) (fun h8 => ?_)
            · refine kLd_of hb8 rfl ?_
              rw [kBin_eql]
              exact j2 _ (decide (e.core = core)) (.inl ⟨rfl, rfl⟩) (by simp [h8]) (.inr hcore) rfl t7 rfl t21 t19 t20 t2
            · exact j2 _ false (.inr ⟨rfl, rfl⟩) (by simp [h8]) (.inr hcore) rfl t7 rfl t21 t19 t20 t2
        | false =>
          refine kSplit_f rfl (kLd_of hb8 rfl ?_)
          rw [kBin_eql]
          refine kSplit_d (fun h8 => ?_) (fun h8 => ?_)
          · refine kLd_of hb8 rfl ?_
            rw [kBin_eql]
            exact j2 _ (decide (e.core = core)) (.inl ⟨rfl, rfl⟩) (by simp [h8]) (.inl hbe) rfl t7 rfl t21 t19 t20 t2
          · exact j2 _ false (.inr ⟨rfl, rfl⟩) (by simp [h8]) (.inl hbe) rfl t7 rfl t21 t19 t20 t2
      · have hje : ys.take j = ys := List.take_of_length_le (by omega)
        rw [hje, hfold] at hS
        exact aRet_of (Sub.refl _) (hK _ cs _ _ (hs05.trans hs) hS (fun l hl => hs05.none (hfr l hl)))
    · exact ⟨0, .slice none 0 0, [], by omega, rfl, rfl, rfl, rfl, rfl, Sub.refl _, SS.nil, by simp [ssF, blks, blkOf]⟩
  · have eB : toldH h core xs = [] := by unfold toldH; rw [if_neg hG]
    rw [eB] at hK
    exact kSplit_t (by simp [hG]) (aRet_of (Sub.refl _) (hK _ [] _ _ s12 SS.nil (by simp [ssF, blks, blkOf])))
end Go.Proofs.Ytldlimkjhppjbaa.Gen

namespace Go.Proofs.Ytldlimkjhppjbaa.Gen
open Go Go.Proofs.Ytldlimkjhppjbaa.Abs Go.RowKit
variable {g : G} {n : Nat}
set_option maxHeartbeats 1000000 in
theorem rTold_spec {h : Hp} {v : Value} {xs : List Ev} {core : Int} (hv : Sl encE 5 g v xs) (hcap : Cap v 5) (hlen : xs.length < 1000000) {K : Cont}
    (hK : ∀ v' cs' g' n', Sub g g' → SS encW 1 g' v' cs' (toldH h core xs) → (∀ l ∈ ssF v' cs', g l = none) → K v' g' n') : AC bellowsref28_Told_id [.agg (encH h).toArray, v, .int .i64 core] g n K := by
  refine ACalls.fold X0_mono ?_
  rw [← bellowsref28_Told_eq]
  simp only [bellowsref28_Told, kAgg_a]
  intro hn
  have s1 := (Sub.refl g).new hn (some (.cells (encH h) .exact))
  refine ldH (upd_same _ _ _) (rGoodH_spec fun g2 n2 s2 => ?_)
  rw [kUn_not]
  have s12 := s1.trans s2
  by_cases hG : GoodH h
  · have eB : toldH h core xs = toldF core xs := by unfold toldH; rw [if_pos hG]
    rw [eB] at hK
    refine kSplit_f (by simp [hG]) (First_spec (hv.mono s12) hcap hlen fun c n3 hc => ?_)
    have hfl := firstE_len xs
    have hfold : (firstE xs).foldl (toldStep core) [] = toldF core xs := rfl
    generalize firstE xs = ys at hfold hfl hc
    refine lfp_ind (m := ys.length) (Inv := fun m t g6 n6 => ∃ (j : Nat) (w : Value) (cs : List Value), m + j = ys.length ∧ t 1 = c ∧ t 8 = .int .i64 (j : Nat) ∧ t 7 = w ∧ t 2 = .int .i64 core ∧ Sub g2 g6 ∧ SS encW 1 g6 w cs ((ys.take j).foldl (toldStep core) []) ∧ (∀ l ∈ ssF w cs, g2 l = none)) ?_ ?_
    · rintro I m t g6 n6 ih ⟨j, w, cs, hm, t1, t8, t7, t2, hs, hS, hfr⟩
      simp only [bellowsref28_Told_l1, t1, t8, t7, t2]
      refine (hc.mono hs).len ?_
      rw [kBin_lss]
      refine kSplit_d (fun hj => ?_) (fun hj => ?_)
      · have hj : j < ys.length := by omega
        have hget : ys[j]? = some ys[j] := List.getElem?_eq_getElem hj
        generalize ys[j] = e at hget
        have hstep : (ys.take (j + 1)).foldl (toldStep core) [] = toldStep core ((ys.take j).foldl (toldStep core) []) e := by rw [take_add hget, List.foldl_append]; rfl
        obtain ⟨hol, hil⟩ := told_lens core (ys.take j) [] 0 (Nat.le_refl _) (by simp)
        rw [List.length_take] at hol hil
        generalize hout : (ys.take j).foldl (toldStep core) [] = out at *
        have next : ∀ (t' : Env) (g' : G) (n' : Nat) (cs' : List Value) (w' : Value), t' 1 = c → t' 8 = .int .i64 (j : Nat) → t' 7 = w' → t' 2 = .int .i64 core → Sub g2 g' → (∀ l ∈ ssF w' cs', g2 l = none) → SS encW 1 g' w' cs' (toldStep core out e) → bellowsref28_Told_j2 AC K I t' g' n' := by
          intro t' g' n' cs' w' q1 q2 q3 q4 u1 u2 q6
          simp only [bellowsref28_Told_j2, q2]
          rw [kBin_add, wrap64_of (by omega) (by omega), show ((j : Nat) : Int) + 1 = ((j + 1 : Nat) : Int) by omega]
          exact ih (m - 1) _ _ _ (by omega) ⟨j + 1, w', cs', by omega, q1, rfl, q3, q4, u1, by rw [hstep]; exact q6, u2⟩
        refine (hc.mono hs).idx encE_len hget (fun l o ha => ?_)
        simp only [kPtr_p]
        refine ha.ld (i := 1) rfl ?_
        rw [kBin_neq]
        refine kSplit_d (fun hcore => ?_) (fun hcore => ?_)
        · have es : toldStep core out e = out := by unfold toldStep; rw [if_neg hcore]
          exact next _ _ _ cs w t1 t8 t7 t2 hs hfr (by rw [es]; exact hS)
        · have hcore : e.core = core := by simpa using hcore
          refine (hc.mono hs).idx encE_len hget (fun l o ha => ?_)
          simp only [kPtr_p]
          refine ha.ldN rfl (rbeg_spec fun g8 n8 s8 => ?_)
          have hS8 := hS.mono s8
          have hs8 := hs.trans s8
          have j3 : ∀ (t' : Env) (g9 : G) (n9 : Nat) (w9 : Value) (cs9 : List Value) (out9 : List (List Int)), t' 1 = c → t' 8 = .int .i64 (j : Nat) → t' 7 = w9 → t' 2 = .int .i64 core → Sub g2 g9 → (∀ l ∈ ssF w9 cs9, g2 l = none) → SS encW 1 g9 w9 cs9 out9 → (out9.length ≤ 1000000 ∧ ∀ xs ∈ out9, xs.length ≤ 1000000) →
              (e.kind = 8 ∧ 0 < out9.length → toldStep core out e = out9.set (out9.length - 1) (out9.getD (out9.length - 1) [] ++ [e.val])) → (¬ (e.kind = 8 ∧ 0 < out9.length) → toldStep core out e = out9) → bellowsref28_Told_j3 AC K I t' g9 n9 := by
            intro t' g9 n9 w9 cs9 out9 q1 q8 q7 q2 u1 u2 hS9 hsz e1 e0
            simp only [bellowsref28_Told_j3, q1, q8, q7]
            refine (hc.mono u1).idx encE_len hget (fun l o ha => ?_)
            simp only [kPtr_p]
            refine ha.ld (i := 0) rfl ?_
            rw [kBin_eql]
            refine kSplit_d (fun h8 => ?_) (fun h8 => ?_)
            · refine hS9.ho.sl.len ?_
              rw [hS9.len, kBin_gtr]
              refine kSplit_d (fun hpos => ?_) (fun hpos => ?_)
              · refine hS9.ho.sl.len ?_
                have hlt : out9.length - 1 < out9.length := by omega
                rw [hS9.len, kBin_sub, wrap64_of (by omega) (by omega), show (out9.length : Int) - 1 = ((out9.length - 1 : Nat) : Int) by omega]
                refine SSget hS9 hlt (fun l o c' hlv hc' _ hldc => ?_)
                rw [kPtr_p]
                refine hldc _ ?_
                refine (hc.mono u1).idx encE_len hget (fun l2 o2 ha2 => ?_)
                simp only [kPtr_p]
                refine ha2.ld (i := 4) rfl (fillW _ _ ?_)
                have hin : (out9.getD (out9.length - 1) []).length ≤ 1000000 := hsz.2 _ (by rw [List.getD_eq_getElem?_getD, List.getElem?_eq_getElem hlt]; exact List.getElem_mem _)
                refine SSlast (op := o) hS9 hlt hc' (by decide) hin hlv (fun l62 v63 p l o g' n' cs' h' u' => ?_)
                obtain ⟨v1, v2⟩ := Updsub u1 u2 u'
                exact next _ g' n' cs' w9 q1 q8 q7 q2 v1 v2 (by rw [e1 ⟨h8, by omega⟩]; exact h')
              · exact next _ g9 n9 cs9 w9 q1 q8 q7 q2 u1 u2 (by rw [e0 (by omega)]; exact hS9)
            · exact next _ g9 n9 cs9 w9 q1 q8 q7 q2 u1 u2 (by rw [e0 (by omega)]; exact hS9)
          cases hbe : begE e with
          | true =>
            have hk4 : e.kind = 4 := by simp [begE] at hbe; exact hbe.1
            have es : toldStep core out e = out ++ [[]] := by unfold toldStep; rw [if_pos hcore, if_pos hbe]
            refine kSplit_t rfl (fillN _ (fun hn8 => ?_))
            refine SS.push hS8 hn8 (by decide) (by omega) (fun w' g' n' h' u' => ?_)
            obtain ⟨v1, v2⟩ := Updsub hs8 hfr u'
            refine j3 _ g' n' w' _ _ t1 t8 rfl t2 v1 v2 h' ⟨by rw [List.length_append]; simp only [List.length_singleton]; omega, fun xs hx => ?_⟩ (fun h => by omega) (fun _ => es)
            rcases List.mem_append.1 hx with hx | hx
            · have := hil xs hx; omega
            · simp at hx; subst hx; simp
          | false =>
            refine kSplit_f rfl (j3 _ g8 n8 w cs out t1 t8 t7 t2 hs8 hfr hS8 ⟨by omega, fun xs hx => by have := hil xs hx; omega⟩ (fun h => ?_) (fun h => ?_))
            · unfold toldStep; rw [if_pos hcore, hbe, if_neg (by simp), if_pos h]
            · unfold toldStep; rw [if_pos hcore, hbe, if_neg (by simp), if_neg h]
      · have hje : ys.take j = ys := List.take_of_length_le (by omega)
        rw [hje, hfold] at hS
        exact aRet_of (Sub.refl _) (hK _ cs _ _ (s12.trans hs) hS (fun l hl => s12.none (hfr l hl)))
    · exact ⟨0, .slice none 0 0, [], by omega, rfl, rfl, rfl, rfl, Sub.refl _, SS.nil, by simp [ssF, blks, blkOf]⟩
  · have eB : toldH h core xs = [] := by unfold toldH; rw [if_neg hG]
    rw [eB] at hK
    exact kSplit_t (by simp [hG]) (aRet_of (Sub.refl _) (hK _ [] _ _ s12 SS.nil (by simp [ssF, blks, blkOf])))
end Go.Proofs.Ytldlimkjhppjbaa.Gen

namespace Go.Proofs.Ytldlimkjhppjbaa.Gen
open Go Go.Proofs.Ytldlimkjhppjbaa.Abs Go.RowKit
variable {g : G} {n : Nat}
theorem eqJ (a b : Int × Int) (K : Value → Prop) (h : K (.bool (decide (a ≠ b)))) : kBin (.agg [.i, .i]) .neq (.agg (encJ a).toArray) (.agg (encJ b).toArray) K := by
  have e : (!(a.1 == b.1 && (a.2 == b.2 && true))) = decide (a ≠ b) := by
    rw [Bool.eq_iff_iff]; cases a; cases b; simp [Prod.mk.injEq]
  show K (.bool _)
  rw [← e] at h
  exact h
theorem neE (a b : Ev) (K : Value → Prop) (h : K (.bool (decide (a ≠ b)))) : kBin (.agg [.i, .i, .i, .i, .i]) .neq (.agg (encE a).toArray) (.agg (encE b).toArray) K := by
  have e : (!(a.kind == b.kind && (a.core == b.core && (a.line == b.line && (a.word == b.word && (a.val == b.val && true)))))) = decide (a ≠ b) := by
    rw [Bool.eq_iff_iff]; cases a; cases b; simp [Ev.mk.injEq]
  show K (.bool _)
  rw [← e] at h
  exact h
theorem EventsSame_spec {v w : Value} {xs : List Ev} (hv : Sl encE 5 g v xs) (hw : Sl encE 5 g w xs) (hlen : xs.length < 1000000) {K : Cont} (hK : ∀ n', K (.bool true) g n') : AC bellowskeep_Events_id [v, w] g n K := by
  refine ACalls.fold X0_mono ?_
  rw [← bellowskeep_Events_eq]
  simp only [bellowskeep_Events]
  refine hv.len (hw.len ?_)
  rw [kBin_neq]
  refine kSplit_f (by simp) ?_
  refine lfp_ind (m := xs.length) (Inv := fun m t g2 n2 => ∃ j : Nat, m + j = xs.length ∧ g2 = g ∧ t 0 = v ∧ t 1 = w ∧ t 5 = .int .i64 (j : Nat)) ?_ ⟨0, by omega, rfl, rfl, rfl, rfl⟩
  rintro I m t g2 n2 ih ⟨j, hm, rfl, t0, t1, t5⟩
  simp only [bellowskeep_Events_l1, t0, t1, t5]
  refine hv.len ?_
  rw [kBin_lss]
  refine kSplit_d (fun hj => ?_) (fun hj => ?_)
  · have hj : j < xs.length := by omega
    have hget : xs[j]? = some xs[j] := List.getElem?_eq_getElem hj
    refine hv.idx encE_len hget (fun l o ha => ?_)
    simp only [kPtr_p]
    refine ha.ldN rfl (hw.idx encE_len hget (fun l o ha => ?_))
    simp only [kPtr_p]
    refine ha.ldN rfl (neE _ _ _ (kSplit_f (by simp) ?_))
    rw [kBin_add, wrap64_of (by omega) (by omega), show ((j : Nat) : Int) + 1 = ((j + 1 : Nat) : Int) by omega]
    exact ih (m - 1) _ _ _ (by omega) ⟨j + 1, by omega, rfl, t0, t1, rfl⟩
  · exact aRet_of (Sub.refl _) (hK _)
theorem cloneE {v : Value} {xs : List Ev} {K : Cont} (hv : Sl encE 5 g v xs) (hlen : xs.length ≤ 1000000) (hn : g n = none) (hK : ∀ v' g' n', Sub g g' → Sl encE 5 g' v' xs → K v' g' n') :
    kAppend (.slice (some ⟨n, 0, none⟩) 0 0) v 5 40 (upd g n (some (.cells (reps 0 [.int .i64 0, .int .i64 0, .int .i64 0, .int .i64 0, .int .u64 0]) .exact))) (n + 1) K := by
  have hs := (Sub.refl g).new hn (some (.cells (reps 0 [.int .i64 0, .int .i64 0, .int .i64 0, .int .i64 0, .int .u64 0]) .exact))
  generalize upd g n (some (.cells (reps 0 [.int .i64 0, .int .i64 0, .int .i64 0, .int .i64 0, .int .u64 0]) .exact)) = g1 at hs
  refine OwnS.append (g0 := g) (xs := ([] : List Ev)) (v := .slice (some ⟨n, 0, none⟩) 0 0) OwnS.empty hs (hv.mono hs) encE_cell (by decide) (by simp; omega) (by simp; omega) (fun v' g' n' h3 h4 h5 h6 => ?_)
  rw [List.nil_append] at h4
  exact hK v' g' n' h3 h4.sl
end Go.Proofs.Ytldlimkjhppjbaa.Gen

namespace Go.Proofs.Ytldlimkjhppjbaa.Gen
open Go Go.Proofs.Ytldlimkjhppjbaa.Abs Go.RowKit
variable {g : G} {n : Nat}
/-! ## what a heap holds, what a transaction is -/
def roomH (h : Hp) : Int := if GoodH h then 4 * h.log else 0
def wordsH (h : Hp) : Int := if GoodH h then 8 * h.hl else 0
theorem roomH_le (h : Hp) : 0 ≤ roomH h ∧ roomH h ≤ 64 := by
  unfold roomH; split
  · rename_i hg; obtain ⟨_, h1, h2, _⟩ := hg; omega
  · omega
theorem wordsH_le (h : Hp) : 0 ≤ wordsH h ∧ wordsH h ≤ 128 := by
  unfold wordsH; split
  · rename_i hg; obtain ⟨_, _, _, h1, h2, _⟩ := hg; omega
  · omega
theorem Room_spec {h : Hp} {K : Cont} (hK : ∀ g' n', Sub g g' → K (.int .i64 (roomH h)) g' n') : AC layout_Room_id [.agg (encH h).toArray] g n K := by
  refine ACalls.fold X0_mono ?_
  rw [← layout_Room_eq]
  simp only [layout_Room, kAgg_a]
  intro hn
  have h1s := (Sub.refl g).new hn (some (.cells (encH h) .exact))
  refine ldH (upd_same _ _ _) (of_spec fun lp g2 n2 hs hp => ?_)
  simp only [kNil_p, kPtr_p]
  refine kLd_of hp rfl ?_
  rw [kUn_not]
  have ss := h1s.trans hs
  by_cases hG : GoodH h
  · refine kSplit_f (by simp [hG]) (kLd_of hp rfl (aRet_of (Sub.refl _) ?_))
    have := hK g2 n2 ss
    obtain ⟨_, h1, h2, _⟩ := id hG
    rw [wrap64_of (by omega) (by omega)]
    unfold roomH at this; rw [if_pos hG] at this; exact this
  · refine kSplit_t (by simp [hG]) (aRet_of (Sub.refl _) ?_)
    have := hK g2 n2 ss
    unfold roomH at this; rw [if_neg hG] at this; exact this
theorem Wds_spec {h : Hp} {K : Cont} (hK : ∀ g' n', Sub g g' → K (.int .i64 (wordsH h)) g' n') : AC layout_Words_id [.agg (encH h).toArray] g n K := by
  refine ACalls.fold X0_mono ?_
  rw [← layout_Words_eq]
  simp only [layout_Words, kAgg_a]
  intro hn
  have h1s := (Sub.refl g).new hn (some (.cells (encH h) .exact))
  refine ldH (upd_same _ _ _) (of_spec fun lp g2 n2 hs hp => ?_)
  simp only [kNil_p, kPtr_p]
  refine kLd_of hp rfl ?_
  rw [kUn_not]
  have ss := h1s.trans hs
  by_cases hG : GoodH h
  · refine kSplit_f (by simp [hG]) (kLd_of hp rfl ?_)
    have := hK g2 n2 ss
    obtain ⟨_, _, _, h1, h2, _⟩ := id hG
    rw [kBin_mul, wrap64_of (by omega) (by omega), Int.mul_comm]
    refine aRet_of (Sub.refl _) ?_
    unfold wordsH at this; rw [if_pos hG] at this; exact this
  · refine kSplit_t (by simp [hG]) (aRet_of (Sub.refl _) ?_)
    have := hK g2 n2 ss
    unfold wordsH at this; rw [if_neg hG] at this; exact this
theorem rRoom_spec {h : Hp} {K : Cont} (hK : ∀ g' n', Sub g g' → K (.int .i64 (roomH h)) g' n') : AC bellowsref22_Room_id [.agg (encH h).toArray] g n K := by
  refine ACalls.fold X0_mono ?_
  rw [← bellowsref22_Room_eq]
  simp only [bellowsref22_Room, kAgg_a]
  intro hn
  have h1s := (Sub.refl g).new hn (some (.cells (encH h) .exact))
  have hb1 : upd g n (some (.cells (encH h) .exact)) n = some (.cells (encH h) .exact) := upd_same _ _ _
  generalize upd g n (some (.cells (encH h) .exact)) = g1 at h1s hb1
  refine ldH hb1 (rGoodH_spec fun g2 n2 hs => ?_)
  rw [kUn_not]
  have ss := h1s.trans hs
  have := hK g2 n2 ss
  by_cases hG : GoodH h
  · refine kSplit_f (by simp [hG]) (kLd_of (hs.live hb1) rfl ?_)
    obtain ⟨_, h1, h2, _⟩ := id hG
    rw [kBin_mul, wrap64_of (by omega) (by omega)]
    refine aRet_of (Sub.refl _) ?_
    unfold roomH at this; rw [if_pos hG] at this; exact this
  · refine kSplit_t (by simp [hG]) (aRet_of (Sub.refl _) ?_)
    unfold roomH at this; rw [if_neg hG] at this; exact this
theorem rWds_spec {h : Hp} {K : Cont} (hK : ∀ g' n', Sub g g' → K (.int .i64 (wordsH h)) g' n') : AC bellowsref22_Words_id [.agg (encH h).toArray] g n K := by
  refine ACalls.fold X0_mono ?_
  rw [← bellowsref22_Words_eq]
  simp only [bellowsref22_Words, kAgg_a]
  intro hn
  have h1s := (Sub.refl g).new hn (some (.cells (encH h) .exact))
  have hb1 : upd g n (some (.cells (encH h) .exact)) n = some (.cells (encH h) .exact) := upd_same _ _ _
  generalize upd g n (some (.cells (encH h) .exact)) = g1 at h1s hb1
  refine ldH hb1 (rGoodH_spec fun g2 n2 hs => ?_)
  rw [kUn_not]
  have ss := h1s.trans hs
  have := hK g2 n2 ss
  by_cases hG : GoodH h
  · refine kSplit_f (by simp [hG]) (kLd_of (hs.live hb1) rfl ?_)
    obtain ⟨_, _, _, h1, h2, _⟩ := id hG
    rw [kBin_mul, wrap64_of (by omega) (by omega)]
    refine aRet_of (Sub.refl _) ?_
    unfold wordsH at this; rw [if_pos hG] at this; exact this
  · refine kSplit_t (by simp [hG]) (aRet_of (Sub.refl _) ?_)
    unfold wordsH at this; rw [if_neg hG] at this; exact this
structure OpT where
  kind : Int
  w : Int
  v : Int
  deriving DecidableEq
def encO (o : OpT) : List Value := [.int .i64 o.kind, .int .i64 o.w, .int .u64 o.v]
theorem encO_len (o : OpT) : (encO o).length = 3 := rfl
theorem encO_cell (o : OpT) : ∀ v ∈ encO o, isCell v = true := by simp [encO, isCell]
structure TxT where
  ops : List OpT
  abort : Bool
def GoodO (o : OpT) : Prop := 1 ≤ o.kind ∧ o.kind ≤ 4 ∧ o.v < 2147483648 ∧ (o.kind ≠ 1 ∨ o.v = 0) ∧ (o.kind ≠ 4 ∨ o.v ≠ 0)
instance (o : OpT) : Decidable (GoodO o) := by unfold GoodO; infer_instance
def GoodT (l : List OpT) : Prop := l.length ≤ 16 ∧ ∀ o ∈ l, GoodO o
instance (l : List OpT) : Decidable (GoodT l) := by unfold GoodT; infer_instance
theorem goodO_spec {o : OpT} {K : Cont} (hK : ∀ g' n', Sub g g' → K (.bool (decide (GoodO o))) g' n') : AC client_good_id [.agg (encO o).toArray] g n K := by
  refine ACalls.fold X0_mono ?_
  rw [← client_good_eq]
  simp only [client_good, kAgg_a]
  intro hn
  have hu := (Sub.refl g).new hn (some (.cells (encO o) .exact))
  have hb : upd g n (some (.cells (encO o) .exact)) n = some (.cells (encO o) .exact) := upd_same _ _ _
  generalize upd g n (some (.cells (encO o) .exact)) = g1 at hu hb
  have hK1 : ∀ m, K (.bool (decide (GoodO o))) g1 m := fun m => hK _ _ hu
  repeat' first
    | (refine kLd_of hb rfl ?_)
    | (refine kSplit_d (fun _ => ?_) (fun _ => ?_))
    | (refine aRet_of (Sub.refl _) (leafB hK1 ?_))
    | (simp only [kBin_geq, kBin_leq, kBin_lss, kBin_gtr, kBin_eql, kBin_neq])
  all_goals (rw [Bool.eq_iff_iff]; simp only [decide_eq_true_eq, reduceCtorEq, false_iff, true_iff, Bool.false_eq_true]; unfold GoodO; omega)
/-- an op is copied into a block of its own -/
theorem copyO {o : OpT} {z : List Value} {K : G → Prop} (hn : g n = none) (hz : z.length = 3) (k : Sub g (upd g n (some (.cells (encO o) .exact))) → upd g n (some (.cells (encO o) .exact)) n = some (.cells (encO o) .exact) → K (upd g n (some (.cells (encO o) .exact)))) :
    kAgg (.agg (encO o).toArray) fun cs => cs.length = 3 ∧ kStN (upd g n (some (.cells z .exact))) n 0 cs K := by
  refine ⟨rfl, kStN_of (upd_same _ _ _) rfl (by rw [hz]; simp [encO]) (encO_cell o) ?_⟩
  have e1 : splice z 0 (encO o).toArray.toList = encO o := by unfold splice; simp [encO, hz]
  rw [e1, upd_upd]
  exact k ((Sub.refl g).new hn _) (upd_same _ _ _)
theorem ldO {l : Nat} {x : OpT} {bk : BK} {K : List Value → Prop} (h : g l = some (.cells (encO x) bk)) (k : K (encO x)) : kLdN g l 0 3 K := by
  refine kLdN_of h (by rw [encO_len]; decide) ?_
  rw [List.drop_zero, List.take_of_length_le (by rw [encO_len]; exact Nat.le_refl _)]; exact k
theorem Good_spec {v : Value} {b : Bool} {xs : List OpT} (hv : Sl encO 3 g v xs) (hlen : xs.length < 1000000) {K : Cont} (hK : ∀ g' n', Sub g g' → K (.bool (decide (GoodT xs))) g' n') : AC client_Good_id [.agg ([v, .bool b] : List Value).toArray] g n K := by
  refine ACalls.fold X0_mono ?_
  rw [← client_Good_eq]
  simp only [client_Good, kAgg_a]
  intro hn
  have hu := (Sub.refl g).new hn (some (.cells [v, .bool b] .exact))
  have hb : upd g n (some (.cells [v, .bool b] .exact)) n = some (.cells [v, .bool b] .exact) := upd_same _ _ _
  generalize upd g n (some (.cells [v, .bool b] .exact)) = g1 at hu hb
  refine kLd_of hb rfl ((hv.mono hu).len ?_)
  refine lfp_ind (m := xs.length) (Inv := fun m t g2 n2 => ∃ j : Nat, m + j = xs.length ∧ Sub g1 g2 ∧ t 6 = v ∧ t 7 = .int .i64 (xs.length : Nat) ∧ t 8 = .int .i64 (j : Nat) ∧ t 1 = ptr n 0 ∧ ∀ o ∈ xs.take j, GoodO o) ?_ ⟨0, by omega, Sub.refl _, rfl, rfl, rfl, rfl, by simp⟩
  rintro I m t g2 n2 ih ⟨j, hm, hs, t6, t7, t8, t1, hall⟩
  simp only [client_Good_l1, t6, t7, t8, kBin_lss]
  refine kSplit_d (fun hj => ?_) (fun hj => ?_)
  · have hj : j < xs.length := by omega
    have hget : xs[j]? = some xs[j] := List.getElem?_eq_getElem hj
    generalize xs[j] = o at hget
    refine ((hv.mono hu).mono hs).idx encO_len hget (fun l p ha => ?_)
    simp only [kPtr_p]
    refine ha.ldN rfl (fun hn2 => copyO hn2 rfl fun s3 hb3 => ldO hb3 (goodO_spec fun g4 n4 s4 => ?_))
    have s24 := (hs.trans s3).trans s4
    rw [kUn_not]
    by_cases hO : GoodO o
    · refine kSplit_f (by simp [hO]) ?_
      rw [kBin_add, wrap64_of (by omega) (by omega), show ((j : Nat) : Int) + 1 = ((j + 1 : Nat) : Int) by omega]
      refine ih (m - 1) _ _ _ (by omega) ⟨j + 1, by omega, s24, t6, t7, rfl, t1, fun x hx => ?_⟩
      rw [take_add hget] at hx
      rcases List.mem_append.1 hx with hx | hx
      · exact hall x hx
      · simp at hx; subst hx; exact hO
    · refine kSplit_t (by simp [hO]) (aRet_of (Sub.refl _) ?_)
      have := hK g4 n4 (hu.trans s24)
      rw [decide_eq_false (fun h : GoodT xs => hO (h.2 _ (List.mem_of_getElem? hget)))] at this
      exact this
  · simp only [client_Good_j2]
    show kPtr (t 1) _
    rw [t1]
    simp only [kPtr_p]
    refine kLd_of (hs.live hb) rfl (((hv.mono hu).mono hs).len ?_)
    rw [kBin_leq]
    refine aRet_of (Sub.refl _) ?_
    have := hK g2 n2 (hu.trans hs)
    rw [List.take_of_length_le (by omega)] at hall
    have e : decide (GoodT xs) = decide ((xs.length : Int) ≤ 16) := by
      rw [Bool.eq_iff_iff]; simp only [decide_eq_true_eq]
      exact ⟨fun h => by have := h.1; omega, fun h => ⟨by omega, hall⟩⟩
    rw [e] at this; exact this
theorem rGood_spec {v : Value} {b : Bool} {xs : List OpT} (hv : Sl encO 3 g v xs) (hlen : xs.length < 1000000) {K : Cont} (hK : ∀ g' n', Sub g g' → K (.bool (decide (GoodT xs))) g' n') : AC bellowsref25_Good_id [.agg ([v, .bool b] : List Value).toArray] g n K := by
  refine ACalls.fold X0_mono ?_
  rw [← bellowsref25_Good_eq]
  simp only [bellowsref25_Good, kAgg_a]
  intro hn
  have hu := (Sub.refl g).new hn (some (.cells [v, .bool b] .exact))
  have hb : upd g n (some (.cells [v, .bool b] .exact)) n = some (.cells [v, .bool b] .exact) := upd_same _ _ _
  generalize upd g n (some (.cells [v, .bool b] .exact)) = g1 at hu hb
  refine kLd_of hb rfl ((hv.mono hu).len ?_)
  rw [kBin_gtr]
  refine kSplit_d (fun h16 => ?_) (fun h16 => ?_)
  · refine aRet_of (Sub.refl _) ?_
    have := hK g1 (n + 1) hu
    rw [decide_eq_false (fun h : GoodT xs => by have := h.1; omega)] at this
    exact this
  refine lfp_ind (m := xs.length) (Inv := fun m t g2 n2 => ∃ j : Nat, m + j = xs.length ∧ Sub g1 g2 ∧ t 3 = .int .i64 (j : Nat) ∧ t 1 = ptr n 0 ∧ ∀ o ∈ xs.take j, GoodO o) ?_ ⟨0, by omega, Sub.refl _, rfl, rfl, by simp⟩
  rintro I m t g2 n2 ih ⟨j, hm, hs, t3, t1, hall⟩
  simp only [bellowsref25_Good_l1, t3, t1, kPtr_p]
  refine kLd_of (hs.live hb) rfl (((hv.mono hu).mono hs).len ?_)
  rw [kBin_lss]
  refine kSplit_d (fun hj => ?_) (fun hj => ?_)
  · have hj : j < xs.length := by omega
    have hget : xs[j]? = some xs[j] := List.getElem?_eq_getElem hj
    generalize xs[j] = o at hget
    refine kLd_of (hs.live hb) rfl (((hv.mono hu).mono hs).idx encO_len hget (fun l p ha => ?_))
    simp only [kPtr_p]
    refine ha.ldN rfl (fun hn2 => copyO hn2 rfl fun s3 hb3 => ?_)
    have s23 := hs.trans s3
    have yes : GoodO o → ∀ t' : Env, t' 3 = .int .i64 ((j + 1 : Nat) : Int) → t' 1 = ptr n 0 → I t' (upd g2 n2 (some (.cells (encO o) .exact))) (n2 + 1) := fun hO t' q3 q1 =>
      ih (m - 1) _ _ _ (by omega) ⟨j + 1, by omega, s23, q3, q1, fun x hx => by
        rw [take_add hget] at hx
        rcases List.mem_append.1 hx with hx | hx
        · exact hall x hx
        · simp at hx; subst hx; exact hO⟩
    have no : ¬ GoodO o → ∀ n', K (.bool false) (upd g2 n2 (some (.cells (encO o) .exact))) n' := fun hO n' => by
      have := hK _ n' (hu.trans s23)
      rw [decide_eq_false (fun h : GoodT xs => hO (h.2 _ (List.mem_of_getElem? hget)))] at this
      exact this
    have ej : IntKind.i64.wrap ((j : Int) + 1) = ((j + 1 : Nat) : Int) := by rw [wrap64_of (by omega) (by omega)]; omega
    generalize upd g2 n2 (some (.cells (encO o) .exact)) = g3 at hb3 yes no
    repeat' first
      | (refine kLd_of hb3 rfl ?_)
      | (refine kSplit_d (fun _ => ?_) (fun _ => ?_))
      | (refine aRet_of (Sub.refl _) (no ?_ _))
      | (rw [kBin_add, ej]; refine yes ?_ _ rfl t1)
      | (simp only [kBin_geq, kBin_leq, kBin_lss, kBin_gtr, kBin_eql, kBin_neq])
    all_goals (unfold GoodO; omega)
  · refine aRet_of (Sub.refl _) ?_
    have := hK g2 n2 (hu.trans hs)
    rw [List.take_of_length_le (by omega)] at hall
    rw [decide_eq_true (show GoodT xs from ⟨by omega, hall⟩)] at this; exact this
end Go.Proofs.Ytldlimkjhppjbaa.Gen

namespace Go.Proofs.Ytldlimkjhppjbaa.Abs
open Go Go.RowKit
theorem mput_keys {α : Type} (ms : List (Int × α)) (a : Int) (x : α) (h : (ms.map Prod.fst).Nodup) : ((mput ms a x).map Prod.fst).Nodup := by
  induction ms with
  | nil => simp [mput]
  | cons p r ih =>
    simp only [List.map_cons, List.nodup_cons] at h
    simp only [mput]
    split
    · rename_i e; simp only [List.map_cons, List.nodup_cons]; rw [e]; exact h
    · rename_i e
      simp only [List.map_cons, List.nodup_cons]
      refine ⟨fun hm => ?_, ih h.2⟩
      have : ∀ (r : List (Int × α)), p.1 ∈ (mput r a x).map Prod.fst → p.1 = a ∨ p.1 ∈ r.map Prod.fst := by
        intro r
        induction r with
        | nil => simp [mput]
        | cons q s ih2 =>
          simp only [mput]
          split
          · rename_i e2; simp only [List.map_cons, List.mem_cons]
            rintro (h | h)
            · exact .inl h
            · exact .inr (.inr h)
          · simp only [List.map_cons, List.mem_cons]
            rintro (h | h)
            · exact .inr (.inl h)
            · rcases ih2 h with h | h
              · exact .inl h
              · exact .inr (.inr h)
      rcases this r hm with h1 | h1
      · exact e h1.symm
      · exact h.1 h1
theorem mget_mem {α : Type} {ms : List (Int × α)} (h : (ms.map Prod.fst).Nodup) {a : Int} {x : α} (hm : (a, x) ∈ ms) : mget ms a = some x := by
  induction ms with
  | nil => cases hm
  | cons p r ih =>
    simp only [List.map_cons, List.nodup_cons] at h
    rcases List.mem_cons.1 hm with e | e
    · subst e; simp [mget]
    · simp only [mget]
      rw [if_neg]
      · exact ih h.2 e
      · rintro rfl; exact h.1 (List.mem_map.2 ⟨_, e, rfl⟩)
end Go.Proofs.Ytldlimkjhppjbaa.Abs
namespace Go.Proofs.Ytldlimkjhppjbaa.Gen
open Go Go.Proofs.Ytldlimkjhppjbaa.Abs Go.RowKit
variable {g gO : G} {n lb lm k : Nat} {vm : Value} {room : Int} {m cur tl : List Int}
def evU (x : Int) : Value := .int .u64 x
def wCells (vm : Value) (room : Int) (lm k : Nat) (vt : Value) : List Value := [vm, .int .i64 room, .map (some lm), .int .i64 (k : Int), vt]
structure Wd (gO g : G) (lb lm : Nat) (vm : Value) (room : Int) (m cur : List Int) (k : Nat) (tl : List Int) : Prop where
  sub : Sub gO g
  ob : gO lb = none
  om : gO lm = none
  ne : lb ≠ lm
  len : cur.length = m.length
  ex : ∃ (vt : Value) (ms : List (Int × Int)), g lb = some (.cells (wCells vm room lm k vt) .exact) ∧ g lm = some (.map (MpE evU .i64 ms)) ∧ OwnS encW 1 none0 g vt tl ∧ (∀ l ∈ blks vt, gO l = none ∧ ∃ b, g l = some b) ∧ lb ∉ blks vt ∧ lm ∉ blks vt ∧
    (∀ i : Nat, i < m.length → (mget ms (i : Int)).getD (m.getD i 0) = cur.getD i 0) ∧ (∀ a x, mget ms a = some x → 0 ≤ a ∧ a < m.length) ∧ (ms.map Prod.fst).Nodup
theorem Wd.new (h : Wd gO g lb lm vm room m cur k tl) (hn : g n = none) (b : Blk) : Wd (upd gO n (some b)) (upd g n (some b)) lb lm vm room m cur k tl := by
  obtain ⟨h1, h2, h3, h4, h5, vt, ms, e1, e2, e3, e4, e5, e6, e7, e8, e9⟩ := h
  have nb := ne_of_live e1 hn
  have nm := ne_of_live e2 hn
  have ne : ∀ l ∈ blks vt, l ≠ n := fun l hl e => by obtain ⟨b', hb'⟩ := (e4 l hl).2; rw [e, hn] at hb'; cases hb'
  refine ⟨h1.upd n _, by rw [upd_ne _ _ nb.symm]; exact h2, by rw [upd_ne _ _ nm.symm]; exact h3, h4, h5, vt, ms, by rw [upd_ne _ _ nb.symm]; exact e1, by rw [upd_ne _ _ nm.symm]; exact e2, e3.mono ((Sub.refl g).new hn _), fun l hl => ?_, e5, e6, e7, e8, e9⟩
  rw [upd_ne _ _ (ne l hl), upd_ne _ _ (ne l hl)]; exact e4 l hl
theorem Wd.base {b : Blk} (h : Wd (upd gO n (some b)) g lb lm vm room m cur k tl) (hn : gO n = none) : Wd gO g lb lm vm room m cur k tl := by
  have s : Sub gO (upd gO n (some b)) := (Sub.refl gO).new hn _
  obtain ⟨h1, h2, h3, h4, h5, vt, ms, e1, e2, e3, e4, e5, e6, e7⟩ := h
  exact ⟨s.trans h1, s.none h2, s.none h3, h4, h5, vt, ms, e1, e2, e3, fun l hl => ⟨s.none (e4 l hl).1, (e4 l hl).2⟩, e5, e6, e7⟩
theorem get_spec {w : Nat} (h : Wd gO g lb lm vm room m cur k tl) (hv : Sl encW 1 gO vm m) (hw : w < m.length) {K : Cont} (hK : ∀ n', K (.int .u64 (cur.getD w 0)) g n') : AC model_world_get_id [ptr lb 0, .int .i64 (w : Nat)] g n K := by
  refine ACalls.fold X0_mono ?_
  rw [← model_world_get_eq]
  simp only [model_world_get, kNil_p, kPtr_p]
  obtain ⟨h1, h2, h3, h4, h5, vt, ms, e1, e2, e3, e4, e5, e6, e7, e8, e9⟩ := h
  refine kLd_of e1 rfl (kLookup_ok e2 ?_)
  have := e7 w hw
  cases hq : mget ms (w : Int) with
  | some x =>
    rw [hq] at this; simp only [Option.getD_some] at this
    have k0 : aRet K (.int .u64 x) g n := aRet_of (Sub.refl _) (by rw [this]; exact hK _)
    exact k0
  | none =>
    rw [hq] at this; simp only [Option.getD_none] at this
    show kLd g lb (0 + 0) _
    refine (kLd_of e1 rfl ((hv.mono h1).idx encW_len (x := m.getD w 0) ?_ fun l o ha => ?_))
    · rw [List.getD_eq_getElem?_getD, List.getElem?_eq_getElem hw]; rfl
    · rw [kPtr_p]
      refine ha.ld (i := 0) rfl (aRet_of (Sub.refl _) ?_)
      rw [this]; exact hK _
theorem put_spec {w : Nat} {v : Int} (h : Wd gO g lb lm vm room m cur k tl) (hw : w < m.length) (hr : room ≤ 1000) {K : Cont}
    (hF : room ≤ k → ∀ n', K (.bool false) g n') (hK : ¬ room ≤ k → ∀ g' n', Wd gO g' lb lm vm room m (cur.set w v) (k + 1) tl → K (.bool true) g' n') : AC model_world_put_id [ptr lb 0, .int .i64 (w : Nat), .int .u64 v] g n K := by
  refine ACalls.fold X0_mono ?_
  rw [← model_world_put_eq]
  simp only [model_world_put, kNil_p, kPtr_p]
  obtain ⟨h1, h2, h3, h4, h5, vt, ms, e1, e2, e3, e4, e5, e6, e7, e8, e9⟩ := h
  refine kLd_of e1 rfl (kLd_of e1 rfl ?_)
  rw [kBin_geq]
  refine kSplit_d (fun hx => aRet_of (Sub.refl _) (hF hx _)) (fun hx => kLd_of e1 rfl ?_)
  rw [kBin_add, wrap64_of (by omega) (by omega), show (k : Int) + 1 = ((k + 1 : Nat) : Int) by omega]
  refine kSt_of e1 rfl (by simp [wCells]) rfl ?_
  refine kLd_of (upd_same _ _ _) rfl ?_
  have em : upd g lb (some (.cells ((wCells vm room lm k vt).set (0 + 3) (.int .i64 ((k + 1 : Nat) : Int))) .exact)) lm = some (.map (MpE evU .i64 ms)) := by rw [upd_ne _ _ h4.symm]; exact e2
  refine kMapSet_m (ev := evU) (x := v) em (aRet_of (Sub.refl _) (hK hx _ _ ?_))
  have hkeep : ∀ l, l ≠ lb → l ≠ lm → ∀ (c1 c2 : Option Blk), upd (upd g lb c1) lm c2 l = g l := fun l q1 q2 c1 c2 => by rw [upd_ne _ _ q2, upd_ne _ _ q1]
  refine ⟨fun l => ?_, h2, h3, h4, by simp [h5], vt, mput ms w v, ?_, upd_same _ _ _, e3.keepB fun l b q1 q2 => ?_, fun l hl => ?_, e5, e6, fun i hi => ?_, fun a x ha => ?_, mput_keys _ _ _ e9⟩
  · by_cases q1 : l = lb
    · subst q1; exact .inl h2
    · by_cases q2 : l = lm
      · subst q2; exact .inl h3
      · rw [hkeep l q1 q2]; exact h1 l
  · rw [upd_ne _ _ h4, upd_same]; rfl
  · rw [hkeep l (fun e => e5 (e ▸ q2)) (fun e => e6 (e ▸ q2))]; exact q1
  · rw [hkeep l (fun e => e5 (e ▸ hl)) (fun e => e6 (e ▸ hl))]; exact e4 l hl
  · rw [mget_mput]
    by_cases hiw : i = w
    · subst hiw; rw [if_pos rfl]; simp [List.getD_eq_getElem?_getD, h5, hi]
    · rw [if_neg (by omega), e7 i hi]; simp [List.getD_eq_getElem?_getD, List.getElem?_set, show ¬ w = i from fun e => hiw e.symm]
  · rw [mget_mput] at ha
    by_cases haw : a = (w : Int)
    · omega
    · rw [if_neg haw] at ha; exact e8 a x ha
theorem tell_spec {x : Int} (h : Wd gO g lb lm vm room m cur k tl) (hl : tl.length < 1000000) {K : Cont} (hK : ∀ g' n', Wd gO g' lb lm vm room m cur k (tl ++ [x]) → K (.tuple #[]) g' n') : AC model_world_tell_id [ptr lb 0, .int .u64 x] g n K := by
  refine ACalls.fold X0_mono ?_
  rw [← model_world_tell_eq]
  simp only [model_world_tell, kNil_p, kPtr_p]
  obtain ⟨h1, h2, h3, h4, h5, vt, ms, e1, e2, e3, e4, e5, e6, e7, e8, e9⟩ := h
  refine kLd_of e1 rfl (fillW _ _ fun hn => ?_)
  have hs := (Sub.refl g).new hn (some (.cells (encW x) .exact))
  have o1 : [x].length = 1 := rfl
  refine own_app (g := upd g n (some (.cells (encW x) .exact))) (e3.mono hs) (Sl.one (x := x) rfl (upd_same _ _ _)) encW_cell (by decide) (by rw [o1]; omega) (by rw [o1]; omega) (by simp) (fun v' g' n' ho hk hf => ?_)
  have b1 : g' lb = some (.cells (wCells vm room lm k vt) .exact) := hk _ _ (hs.live e1) e5
  have b2 : g' lm = some (.map (MpE evU .i64 ms)) := hk _ _ (hs.live e2) e6
  refine kSt_of b1 rfl (by simp [wCells]) ho.isCell (aRet_of (Sub.refl _) (hK _ _ ?_))
  have n1 : lb ∉ blks v' := fun hm => by have := hf _ hm; rw [hs.live e1] at this; cases this
  have n2 : lm ∉ blks v' := fun hm => by have := hf _ hm; rw [hs.live e2] at this; cases this
  refine ⟨fun l => ?_, h2, h3, h4, h5, v', ms, upd_same _ _ _, by rw [upd_ne _ _ h4.symm]; exact b2, ho.keepB fun l b q1 q2 => ?_, fun l hl => ⟨h1.none (hs.none (hf l hl)), ?_⟩, n1, n2, e7, e8, e9⟩
  · by_cases q1 : l = lb
    · subst q1; exact .inl h2
    · rw [upd_ne _ _ q1]
      cases hq : gO l with
      | none => exact .inl rfl
      | some b => exact .inr (hk l b (hs.live (h1.live hq)) (fun hm => by rw [(e4 l hm).1] at hq; cases hq)).symm
  · rw [upd_ne _ _ (fun e : l = lb => n1 (e ▸ q2))]; exact q1
  · obtain ⟨b, hb⟩ := ho.there l hl (by simp)
    exact ⟨b, by rw [upd_ne _ _ (fun e : l = lb => n1 (e ▸ hl))]; exact hb⟩
end Go.Proofs.Ytldlimkjhppjbaa.Gen

namespace Go.Proofs.Ytldlimkjhppjbaa.Gen
open Go Go.Proofs.Ytldlimkjhppjbaa.Abs Go.RowKit
variable {g gO : G} {n lb lm k : Nat} {vm : Value} {room : Int} {m cur tl : List Int}
abbrev St := List Int × Nat × List Int
def wrapU (x : Int) : Int := IntKind.u64.wrap x
def stepO (room : Int) (s : St) (o : OpT) : Option St :=
  if o.kind = 1 then some (s.1, s.2.1, s.2.2 ++ [s.1.getD o.w.toNat 0])
  else if o.kind = 4 ∧ s.1.getD o.w.toNat 0 ≠ 0 then some (s.1, s.2.1, s.2.2 ++ [0])
  else if room ≤ s.2.1 then none
  else if o.kind = 2 then some (s.1.set o.w.toNat o.v, s.2.1 + 1, s.2.2)
  else if o.kind = 3 then some (s.1.set o.w.toNat (wrapU (o.v + s.1.getD o.w.toNat 0)), s.2.1 + 1, s.2.2 ++ [wrapU (o.v + s.1.getD o.w.toNat 0)])
  else some (s.1.set o.w.toNat o.v, s.2.1 + 1, s.2.2 ++ [1])
def runOps (room : Int) : List OpT → St → List Int × List Int × Int
  | [], s => (s.1, s.2.2, 0)
  | o :: os, s => if o.w < 0 ∨ (s.1.length : Int) ≤ o.w then (s.1, s.2.2, 103) else match stepO room s o with
    | none => (s.1, s.2.2, 102)
    | some s' => runOps room os s'
def codeOf (abort : Bool) (c : Int) : Int := if c = 0 then (if abort then 104 else 101) else c
def runTx (room : Int) (t : TxT) (m : List Int) : List Int × List Int :=
  let r := runOps room t.ops (m, 0, [])
  (if codeOf t.abort r.2.2 = 101 then r.1 else m, r.2.1 ++ [codeOf t.abort r.2.2])
theorem stepO_len {room : Int} {s s' : St} {o : OpT} (h : stepO room s o = some s') : s'.1.length = s.1.length ∧ s'.2.2.length ≤ s.2.2.length + 1 ∧ s'.2.1 ≤ s.2.1 + 1 := by
  unfold stepO at h
  repeat' split at h
  all_goals first | (cases h; refine ⟨?_, ?_, ?_⟩ <;> simp) | cases h
set_option maxHeartbeats 1000000 in
theorem op_spec {o : OpT} (h : Wd gO g lb lm vm room m cur k tl) (hv : Sl encW 1 gO vm m) (hg : GoodO o) (h0 : 0 ≤ o.w) (h1 : o.w < m.length) (hr : room ≤ 1000) (hl : tl.length < 1000) {K : Cont}
    (hF : stepO room (cur, k, tl) o = none → ∀ g' n', Wd gO g' lb lm vm room m cur k tl → K (.bool false) g' n')
    (hK : ∀ s' : St, stepO room (cur, k, tl) o = some s' → ∀ g' n', Wd gO g' lb lm vm room m s'.1 s'.2.1 s'.2.2 → K (.bool true) g' n') : AC model_world_op_id [ptr lb 0, .agg (encO o).toArray] g n K := by
  refine ACalls.fold X0_mono ?_
  rw [← model_world_op_eq]
  simp only [model_world_op, kAgg_a]
  intro hn
  have hw1 := h.new hn (.cells (encO o) .exact)
  have hn0 : gO n = none := h.sub.none hn
  have hb1 : upd g n (some (.cells (encO o) .exact)) n = some (.cells (encO o) .exact) := upd_same _ _ _
  have hv1 : Sl encW 1 (upd gO n (some (.cells (encO o) .exact))) vm m := hv.mono ((Sub.refl gO).new hn0 _)
  generalize upd g n (some (.cells (encO o) .exact)) = g1 at hw1 hb1
  obtain ⟨w, ew⟩ : ∃ w : Nat, o.w = (w : Int) := ⟨o.w.toNat, by omega⟩
  have ewt : o.w.toNat = w := by omega
  have hlw : w < m.length := by omega
  obtain ⟨k1, k2, k3, k4, k5⟩ := hg
  refine kLd_of hb1 rfl ?_
  show AC model_world_get_id [ptr lb 0, .int .i64 o.w] _ _ _
  rw [ew]
  refine get_spec hw1 hv1 hlw fun n2 => kLd_of hb1 rfl ?_
  rw [kBin_eql]
  have fin : ∀ (s' : St), stepO room (cur, k, tl) o = some s' → ∀ g' n', Wd (upd gO n (some (.cells (encO o) .exact))) g' lb lm vm room m s'.1 s'.2.1 s'.2.2 → aRet K (.bool true) g' n' := fun s' q g' n' hw => aRet_of (Sub.refl _) (hK s' q g' n' (hw.base hn0))
  have bad : stepO room (cur, k, tl) o = none → ∀ g' n', Wd (upd gO n (some (.cells (encO o) .exact))) g' lb lm vm room m cur k tl → aRet K (.bool false) g' n' := fun q g' n' hw => aRet_of (Sub.refl _) (hF q g' n' (hw.base hn0))
  -- a change, and what is told
  have j1 : ∀ (t : Env) (x y : Int), t 3 = ptr n 0 → t 0 = ptr lb 0 → t 7 = .int .u64 x → t 6 = .int .u64 y → (room ≤ k → stepO room (cur, k, tl) o = none) → (¬ room ≤ k → stepO room (cur, k, tl) o = some (cur.set w x, k + 1, tl ++ [y])) → model_world_op_j1 AC K t g1 n2 := by
    intro t x y t3 t0 t7 t6 e1 e2
    simp only [model_world_op_j1, t3, kPtr_p]
    refine kLd_of hb1 rfl ?_
    show AC model_world_put_id [t 0, .int .i64 o.w, t 7] _ _ _
    rw [t0, t7, ew]
    refine put_spec hw1 hlw hr (fun hx n' => ?_) (fun hx g' n' hw' => ?_)
    · rw [kUn_not]; exact kSplit_t rfl (bad (e1 hx) _ _ hw1)
    · rw [kUn_not]
      refine kSplit_f rfl ?_
      rw [t6]
      exact tell_spec hw' (by omega) fun g2 n2 hw2 => fin _ (e2 hx) _ _ hw2
  refine kSplit_d (fun c1 => ?_) (fun c1 => ?_)
  · refine tell_spec hw1 (by omega) fun g' n' hw' => fin (cur, k, tl ++ [cur.getD w 0]) ?_ _ _ hw'
    unfold stepO; rw [if_pos c1, ewt]
  refine kLd_of hb1 rfl ?_
  rw [kBin_eql]
  refine kSplit_d (fun c2 => ?_) (fun c2 => ?_)
  · refine kLd_of hb1 rfl (kLd_of hb1 rfl ?_)
    show AC model_world_put_id [ptr lb 0, .int .i64 o.w, .int .u64 o.v] _ _ _
    rw [ew]
    refine put_spec hw1 hlw hr (fun hx n' => bad ?_ _ _ hw1) (fun hx g' n' hw' => fin (cur.set w o.v, k + 1, tl) ?_ _ _ hw')
    · unfold stepO; rw [if_neg c1, if_neg (by omega), if_pos hx]
    · unfold stepO; rw [if_neg c1, if_neg (by omega), if_neg hx, if_pos c2, ewt]
  refine kLd_of hb1 rfl ?_
  rw [kBin_eql]
  refine kSplit_d (fun c4 => ?_) (fun c4 => ?_)
  · rw [kBin_neq]
    refine kSplit_d (fun c0 => ?_) (fun c0 => ?_)
    · refine tell_spec hw1 (by omega) fun g' n' hw' => fin (cur, k, tl ++ [0]) ?_ _ _ hw'
      unfold stepO; rw [if_neg c1, ewt, if_pos ⟨c4, c0⟩]
    · refine kLd_of hb1 rfl (kLd_of hb1 rfl ?_)
      rw [kBin_eql]
      refine kSplit_f (by simp; omega) (j1 _ o.v 1 rfl rfl rfl rfl (fun hx => ?_) (fun hx => ?_))
      · unfold stepO; rw [if_neg c1, ewt, if_neg (by rintro ⟨_, h⟩; exact c0 h), if_pos hx]
      · unfold stepO; rw [if_neg c1, ewt, if_neg (by rintro ⟨_, h⟩; exact c0 h), if_neg hx, if_neg c2, if_neg (by omega)]
  · refine kLd_of hb1 rfl (kLd_of hb1 rfl ?_)
    rw [kBin_eql]
    refine kSplit_t (by simp; omega) ?_
    rw [kBin_add]
    refine j1 _ (wrapU (o.v + cur.getD w 0)) (wrapU (o.v + cur.getD w 0)) rfl rfl rfl rfl (fun hx => ?_) (fun hx => ?_)
    · unfold stepO; rw [if_neg c1, ewt, if_neg (by omega), if_pos hx]
    · unfold stepO; rw [if_neg c1, ewt, if_neg (by omega), if_neg hx, if_neg c2, if_pos (by omega)]
set_option maxHeartbeats 1000000 in
theorem end_spec {vo : Value} {t : TxT} (h : Wd gO g lb lm vm room m m 0 []) (hv : Sl encW 1 gO vm m) (ho : Sl encO 3 gO vo t.ops) (hg : GoodT t.ops) (hr : room ≤ 1000) {K : Cont}
    (hK : ∀ g' n' k', Wd gO g' lb lm vm room m (runOps room t.ops (m, 0, [])).1 k' (runOps room t.ops (m, 0, [])).2.1 → (runOps room t.ops (m, 0, [])).2.1.length < 1000 → K (.int .u64 (codeOf t.abort (runOps room t.ops (m, 0, [])).2.2)) g' n') :
    AC model_world_end_id [ptr lb 0, .agg ([vo, .bool t.abort] : List Value).toArray] g n K := by
  refine ACalls.fold X0_mono ?_
  rw [← model_world_end_eq]
  simp only [model_world_end, kAgg_a]
  intro hn
  have hw1 := h.new hn (.cells [vo, .bool t.abort] .exact)
  have hn0 : gO n = none := h.sub.none hn
  have hbO : upd gO n (some (.cells [vo, .bool t.abort] .exact)) n = some (.cells [vo, .bool t.abort] .exact) := upd_same _ _ _
  have hv1 : Sl encW 1 (upd gO n (some (.cells [vo, .bool t.abort] .exact))) vm m := hv.mono ((Sub.refl gO).new hn0 _)
  have ho1 : Sl encO 3 (upd gO n (some (.cells [vo, .bool t.abort] .exact))) vo t.ops := ho.mono ((Sub.refl gO).new hn0 _)
  have bs : ∀ {g' : G} {cur : List Int} {k : Nat} {tl : List Int}, Wd (upd gO n (some (.cells [vo, .bool t.abort] .exact))) g' lb lm vm room m cur k tl → Wd gO g' lb lm vm room m cur k tl := fun h => h.base hn0
  generalize upd gO n (some (.cells [vo, .bool t.abort] .exact)) = gP at hw1 hbO hv1 ho1 bs
  generalize upd g n (some (.cells [vo, .bool t.abort] .exact)) = g1 at hw1
  refine kLd_of (hw1.sub.live hbO) rfl ((ho1.mono hw1.sub).len ?_)
  have hlen := hg.1
  refine lfp_ind (m := t.ops.length) (Inv := fun mm e g2 n2 => ∃ (j : Nat) (cur : List Int) (k : Nat) (tl : List Int), mm + j = t.ops.length ∧ Wd gP g2 lb lm vm room m cur k tl ∧ e 8 = vo ∧ e 9 = .int .i64 (t.ops.length : Nat) ∧ e 10 = .int .i64 (j : Nat) ∧ e 0 = ptr lb 0 ∧ e 3 = ptr n 0 ∧ runOps room (t.ops.drop j) (cur, k, tl) = runOps room t.ops (m, 0, []) ∧ tl.length ≤ j ∧ cur.length = m.length) ?_ ⟨0, m, 0, [], by omega, hw1, rfl, rfl, rfl, rfl, rfl, rfl, by simp, rfl⟩
  rintro I mm e g2 n2 ih ⟨j, cur, k, tl, hm, hw, t8, t9, t10, t0, t3, hrun, htl, hcl⟩
  simp only [model_world_end_l1, t8, t9, t10, t0, kBin_lss]
  refine kSplit_d (fun hj => ?_) (fun hj => ?_)
  · have hj : j < t.ops.length := by omega
    have hget : t.ops[j]? = some t.ops[j] := List.getElem?_eq_getElem hj
    generalize t.ops[j] = o at hget
    rw [drop_get hget] at hrun
    refine (ho1.mono hw.sub).idx encO_len hget (fun l p ha => ?_)
    simp only [kPtr_p]
    refine ha.ldN rfl (fun hn2 => copyO hn2 rfl fun s3 hb3 => ?_)
    have hw3 := (hw.new hn2 (.cells (encO o) .exact)).base (hw.sub.none hn2)
    generalize upd g2 n2 (some (.cells (encO o) .exact)) = g3 at s3 hb3 hw3
    have badw : o.w < 0 ∨ (cur.length : Int) ≤ o.w → ∀ n', aRet K (.int .u64 103) g3 n' := fun hb n' => by
      have e1 : runOps room (o :: t.ops.drop (j + 1)) (cur, k, tl) = (cur, tl, 103) := by unfold runOps; rw [if_pos hb]
      rw [e1] at hrun
      have := hK g3 n' k
      rw [← hrun] at this
      exact aRet_of (Sub.refl _) (this (bs hw3) (by show tl.length < 1000; omega))
    refine kLd_of hb3 rfl ?_
    rw [kBin_lss]
    refine kSplit_d (fun c1 => badw (.inl c1) _) (fun c1 => ?_)
    obtain ⟨_, _, _, _, _, vt, ms, e1, e2, e3⟩ := id hw3
    refine kLd_of hb3 rfl ?_
    simp only [kNil_p, kPtr_p]
    refine kLd_of e1 rfl ((hv1.mono hw3.sub).len ?_)
    rw [kBin_geq]
    refine kSplit_d (fun c2 => badw (.inr (by rw [hcl]; exact c2)) _) (fun c2 => ?_)
    have hrun2 : (match stepO room (cur, k, tl) o with | none => (cur, tl, 102) | some s' => runOps room (t.ops.drop (j + 1)) s') = runOps room t.ops (m, 0, []) := by
      rw [← hrun]; conv => rhs; unfold runOps
      rw [if_neg (by rw [hcl]; omega)]
    refine ldO hb3 (op_spec hw3 hv1 (hg.2 o (List.mem_of_getElem? hget)) (by omega) (by omega) hr (by omega) (fun hs g' n' hw' => ?_) (fun s' hs g' n' hw' => ?_))
    · rw [kUn_not]
      refine kSplit_t rfl (aRet_of (Sub.refl _) ?_)
      rw [hs] at hrun2
      have := hK g' n' k
      rw [← hrun2] at this
      exact this (bs hw') (by show tl.length < 1000; omega)
    · rw [kUn_not]
      refine kSplit_f rfl ?_
      rw [kBin_add, wrap64_of (by omega) (by omega), show ((j : Nat) : Int) + 1 = ((j + 1 : Nat) : Int) by omega]
      rw [hs] at hrun2
      obtain ⟨q1, q2, q3⟩ := stepO_len hs
      simp only at q1 q2 q3
      exact ih (mm - 1) _ _ _ (by omega) ⟨j + 1, s'.1, s'.2.1, s'.2.2, by omega, hw', t8, t9, rfl, t0, t3, hrun2, by omega, by rw [q1, hcl]⟩
  · simp only [model_world_end_j2]
    show kPtr (e 3) _
    rw [t3]
    simp only [kPtr_p]
    rw [List.drop_eq_nil_of_le (by omega)] at hrun
    have e1 : runOps room [] (cur, k, tl) = (cur, tl, 0) := rfl
    rw [e1] at hrun
    have := hK g2 n2 k
    rw [← hrun] at this
    refine kLd_of (hw.sub.live hbO) rfl ?_
    have this := this (bs hw) (by show tl.length < 1000; omega)
    revert this
    cases t.abort with
    | true => exact fun this => kSplit_t rfl (aRet_of (Sub.refl _) this)
    | false => exact fun this => kSplit_f rfl (aRet_of (Sub.refl _) this)
end Go.Proofs.Ytldlimkjhppjbaa.Gen

namespace Go.Proofs.Ytldlimkjhppjbaa.Gen
open Go Go.Proofs.Ytldlimkjhppjbaa.Abs Go.RowKit
variable {g gO : G} {n lb lm k : Nat} {vm : Value} {room : Int} {m cur tl : List Int}
theorem Wd.mono {g' : G} (h : Wd gO g lb lm vm room m cur k tl) (s : Sub g g') : Wd gO g' lb lm vm room m cur k tl := by
  obtain ⟨h1, h2, h3, h4, h5, vt, ms, e1, e2, e3, e4, e5⟩ := h
  exact ⟨h1.trans s, h2, h3, h4, h5, vt, ms, s.live e1, s.live e2, e3.mono s, fun l hl => ⟨(e4 l hl).1, let ⟨b, hb⟩ := (e4 l hl).2; ⟨b, s.live hb⟩⟩, e5⟩
theorem CloneW_spec {v : Value} {xs : List Int} (hv : Sl encW 1 g v xs) (h0 : 0 < xs.length) (hl : xs.length < 1000000) {K : Cont}
    (hK : ∀ v' g' n', Sub g g' → OwnS encW 1 none0 g' v' xs → (∀ l ∈ blks v', g l = none) → K v' g' n') : AC slices_Clone_uint64_uint64_id [v] g n K := by
  refine ACalls.fold X0_mono ?_
  rw [← slices_Clone_uint64_uint64_eq]
  simp only [slices_Clone_uint64_uint64]
  obtain ⟨a, c, rfl, hl', ha, hg⟩ := id hv
  obtain ⟨l, o, bs, bk, rfl, _⟩ := hg h0
  have hb : ∀ J : Value → Prop, J (.bool false) → kBin .slice .eql (.slice (some ⟨l, o, none⟩) xs.length c) (.slice none 0 0) J := fun J h => h
  refine hb _ (kSplit_f rfl ?_)
  rw [kFill_nil]
  intro hn
  have hs := (Sub.refl g).new hn (some (.cells (reps 0 [.int .u64 0]) .exact))
  generalize upd g n (some (.cells (reps 0 [.int .u64 0]) .exact)) = g1 at hs
  refine own_app (g := g1) (xs := ([] : List Int)) (v := .slice (some ⟨n, 0, none⟩) 0 0) OwnS.empty (hv.mono hs) encW_cell (by decide) (by simp; omega) (by simp; omega) h0 (fun v' g' n' h4 hk hf => ?_)
  rw [List.nil_append] at h4
  refine aRet_of (Sub.refl _) (hK v' g' n' (fun l => ?_) h4 (fun l hl => hs.none (hf l hl)))
  cases hq : g l with
  | none => exact .inl rfl
  | some b => exact .inr (hk l b (hs.live hq) (fun hm => by simp [blks, blkOf] at hm; subst hm; rw [hn] at hq; cases hq)).symm
theorem nodup_le : ∀ (N : Nat) (l : List Nat), l.Nodup → (∀ x ∈ l, x < N) → l.length ≤ N
  | 0, l, _, h => by
    cases l with
    | nil => simp
    | cons a l => exact absurd (h a (by simp)) (by omega)
  | N + 1, l, hn, h => by
    have ih := nodup_le N (l.erase N) (hn.erase N) (fun x hx => by
      have h1 := (List.Nodup.mem_erase_iff hn).1 hx
      have := h x h1.2
      have := h1.1
      omega)
    by_cases hm : N ∈ l
    · rw [List.length_erase_of_mem hm] at ih; omega
    · rw [List.erase_of_not_mem hm] at ih; omega
theorem kEx {vs : List Value} {i : Nat} {v : Value} {K : Value → Prop} (h : vs[i]? = some v) (k : K v) : kExtract (.tuple vs.toArray) i K := by rw [kExtract_t]; exact kGet_of h k
theorem kIter_of {p l : Nat} {es : List (Value × Value)} {seen : List Nat} {K : Nat → Nat → List (Value × Value) → List Nat → Prop} (h1 : g p = some (.iter l es.length seen)) (h2 : g l = some (.map es)) (k : K p l es seen) : kIter (ptr p 0) g K := by
  show (match g p with | some (.iter l cnt seen) => kMap g l fun es => es.length = cnt ∧ K p l es seen | _ => False)
  rw [h1]
  show kMap g l _
  unfold kMap; rw [h2]
  exact ⟨rfl, k⟩
theorem fillWd {lm : Nat} (hc : isCell vm = true) (K : List Value → Prop) (k : K (wCells vm room lm 0 (.slice none 0 0))) : kFill [(.slice none 0 0), (.int .i64 0), (.map none), (.int .i64 0), (.slice none 0 0)] [(0, none, vm), (1, none, .int .i64 room), (2, none, (.map (some lm)))] K := ⟨hc, by simp, rfl, by simp, rfl, by simp, k⟩
set_option maxHeartbeats 1000000 in
theorem Run_spec {vo : Value} {t : TxT} (hv : Sl encW 1 g vm m) (ho : Sl encO 3 g vo t.ops) (hg : GoodT t.ops) (hr0 : 0 ≤ room) (hr : room ≤ 1000) (h0 : 0 < m.length) (hml : m.length ≤ 1000) {K : Cont}
    (hK : ∀ va vt g' n', Sub g g' → OwnS encW 1 none0 g' va (runTx room t m).1 → OwnS encW 1 none0 g' vt (runTx room t m).2 → K (.tuple #[va, vt, .int .i64 0]) g' n') :
    AC model_Run_id [vm, .int .i64 room, .agg ([vo, .bool t.abort] : List Value).toArray] g n K := by
  have hcell : isCell vm = true := by
    obtain ⟨a, c, rfl, _, ha, _⟩ := id hv
    rcases ha with rfl | ⟨_, _, rfl⟩ <;> rfl
  refine ACalls.fold X0_mono ?_
  rw [← model_Run_eq]
  simp only [model_Run, kAgg_a]
  intro hn
  have s1 := (Sub.refl g).new hn (some (.cells [vo, .bool t.abort] .exact))
  have hb1 : upd g n (some (.cells [vo, .bool t.abort] .exact)) n = some (.cells [vo, .bool t.abort] .exact) := upd_same _ _ _
  generalize upd g n (some (.cells [vo, .bool t.abort] .exact)) = g1 at s1 hb1
  have hol := hg.1
  refine kLdN_of hb1 (by simp) (Good_spec (ho.mono s1) (by omega) fun g2 n2 s2 => ?_)
  have s12 := s1.trans s2
  have hb2 := s2.live hb1
  rw [kUn_not]
  refine kSplit_f (by simp [hg]) ?_
  rw [kBin_lss]
  refine kSplit_f (by simp; omega) ?_
  rw [kBin_gtr]
  refine kSplit_f (by simp; omega) ((hv.mono s12).len ?_)
  rw [kBin_gtr]
  refine kSplit_f (by simp; omega) (fun hn2 => ?_)
  have s3 := (Sub.refl g2).new hn2 (some (.map []))
  have hm3 : upd g2 n2 (some (.map [])) n2 = some (.map []) := upd_same _ _ _
  generalize upd g2 n2 (some (.map [])) = g3 at s3 hm3
  refine fillWd hcell _ (fun hn3 => ?_)
  have s4 := (Sub.refl g3).new hn3 (some (.cells (wCells vm room n2 0 (.slice none 0 0)) .exact))
  have hb4 : upd g3 (n2 + 1) (some (.cells (wCells vm room n2 0 (.slice none 0 0)) .exact)) (n2 + 1) = some (.cells (wCells vm room n2 0 (.slice none 0 0)) .exact) := upd_same _ _ _
  have hw4 : Wd g2 (upd g3 (n2 + 1) (some (.cells (wCells vm room n2 0 (.slice none 0 0)) .exact))) (n2 + 1) n2 vm room m m 0 [] :=
    ⟨s3.trans s4, s3.none hn3, hn2, by omega, rfl, _, [], hb4, s4.live hm3, OwnS.nil, by simp [blks, blkOf], by simp [blks, blkOf], by simp [blks, blkOf], by simp [mget], by simp [mget], by simp⟩
  generalize upd g3 (n2 + 1) (some (.cells (wCells vm room n2 0 (.slice none 0 0)) .exact)) = g4 at s4 hb4 hw4
  refine kLdN_of (s4.live (s3.live hb2)) (by simp) (end_spec hw4 (hv.mono s12) (ho.mono s12) hg hr (fun g5 n5 k5 hw5 hl5 => ?_))
  have eR : runTx room t m = (if codeOf t.abort (runOps room t.ops (m, 0, [])).2.2 = 101 then (runOps room t.ops (m, 0, [])).1 else m, (runOps room t.ops (m, 0, [])).2.1 ++ [codeOf t.abort (runOps room t.ops (m, 0, [])).2.2]) := rfl
  rw [eR] at hK
  generalize runOps room t.ops (m, 0, []) = rr at hK hw5 hl5
  obtain ⟨cur, tl, c0⟩ := rr
  simp only at hK hw5 hl5 ⊢
  generalize codeOf t.abort c0 = code at hK
  refine tell_spec hw5 (by omega) (fun g6 n6 hw6 => ?_)
  refine CloneW_spec ((hv.mono s12).mono hw6.sub) h0 (by omega) (fun v7 g7 n7 s7 o7 f6 => ?_)
  rw [kBin_eql]
  have hw7 := hw6.mono s7
  obtain ⟨q1, q2, q3, q4, q5, vt, ms, e1, e2, e3, e4, e5, e6, e7, e8, e9⟩ := hw7
  have s07 := s12.trans q1
  refine kSplit_d (fun hc => ?_) (fun hc => ?_)
  · rw [if_pos hc] at hK
    refine kLd_of e1 rfl ?_
    show kMap g7 n2 _
    unfold kMap; rw [e2]
    intro hn7
    have s8 := (Sub.refl g7).new hn7 (some (.iter n2 (MpE evU .i64 ms).length []))
    have hp8 : upd g7 n7 (some (.iter n2 (MpE evU .i64 ms).length [])) n7 = some (.iter n2 (MpE evU .i64 ms).length []) := upd_same _ _ _
    generalize upd g7 n7 (some (.iter n2 (MpE evU .i64 ms).length [])) = g8 at s8 hp8
    have hfb : n7 ∉ blks v7 := fun hm => by obtain ⟨b, hb⟩ := o7.there n7 hm (by omega); rw [hn7] at hb; cases hb
    obtain ⟨_, _, _, _, _, vt6, ms6, e16, e26, e36, e46, _⟩ := id hw6
    have evt : vt6 = vt := by
      have := s7.live e16; rw [e1] at this
      simp only [wCells, Option.some.injEq, Blk.cells.injEq, List.cons.injEq, and_true, true_and] at this
      exact this.symm
    subst evt
    have hel : (MpE evU .i64 ms).length = ms.length := by simp [MpE]
    have hlive : g6 n2 = some (.map (MpE evU .i64 ms)) := by have := s7.live e26; rw [e2] at this; rw [e26]; exact this.symm
    refine lfp_ind (m := ms.length) (Inv := fun mm e g9 n9 => ∃ (seen : List Nat) (out : List Int), mm + seen.length = ms.length ∧ e 48 = ptr n7 0 ∧ e 6 = v7 ∧ e 9 = ptr (n2 + 1) 0 ∧ Sub g6 g9 ∧ g9 n7 = some (.iter n2 (MpE evU .i64 ms).length seen) ∧ OwnS encW 1 none0 g9 v7 out ∧ seen.Nodup ∧ (∀ i ∈ seen, i < ms.length) ∧ out.length = m.length ∧
      (∀ i : Nat, i < m.length → out.getD i 0 = cur.getD i 0 ∨ (out.getD i 0 = m.getD i 0 ∧ ∀ idx ∈ seen, ∀ x, ms[idx]? ≠ some ((i : Int), x)))) ?_ ⟨[], m, by simp, rfl, rfl, rfl, s7.trans s8, hp8, o7.mono s8, by simp, by simp, rfl, fun i _ => .inr ⟨rfl, by simp⟩⟩
    rintro I mm e g9 n9 ih ⟨seen, out, hm, t48, t6, t9, s9, hp9, o9, hnd, hlt, hol9, hov⟩
    simp only [model_Run_l1, t48, t6]
    have hm9 := s9.live hlive
    refine kIter_of hp9 hm9 ⟨fun hall => ?_, fun i kv hi hkv => ?_⟩
    · show model_Run_j2 AC K _ _ _
      simp only [model_Run_j2]
      show kNil (e 9) _
      rw [t9]
      simp only [kNil_p, kPtr_p]
      refine kLd_of (s9.live e16) rfl ?_
      show aRet K (.tuple #[e 6, vt6, .int .i64 0]) _ _
      rw [t6]
      refine aRet_of (Sub.refl _) (hK v7 vt6 g9 n9 (s12.trans (hw6.sub.trans s9)) ?_ (e36.mono s9))
      have eo : out = cur := by
        apply List.ext_getElem (by rw [hol9, q5])
        intro i h1 h2
        have hi : i < m.length := by omega
        have : out.getD i 0 = cur.getD i 0 := by
          rcases hov i hi with h | ⟨h, hno⟩
          · exact h
          · have hq := e7 i hi
            have hsp := spos_get ms (i : Int)
            cases hs : spos ms (i : Int) with
            | none => rw [hs] at hsp; rw [hsp] at hq; rw [h]; exact hq
            | some idx =>
              rw [hs] at hsp
              obtain ⟨x, hx, _⟩ := hsp
              have hil : idx < ms.length := (List.getElem?_eq_some_iff.1 hx).1
              exact absurd hx (hno idx (hall idx (by rw [hel]; exact hil)) x)
        simpa [List.getD_eq_getElem?_getD, h1, h2] using this
      rw [← eo]; exact o9
    · have hkv' : ∃ a x, ms[i]? = some (a, x) ∧ kv = (.int .i64 a, evU x) := by
        simp only [MpE, List.getElem?_map] at hkv
        cases hq : ms[i]? with
        | none => rw [hq] at hkv; cases hkv
        | some p => rw [hq] at hkv; simp at hkv; exact ⟨p.1, p.2, rfl, hkv.symm⟩
      obtain ⟨a, x, hax, rfl⟩ := hkv'
      have hget := mget_mem e9 (List.mem_of_getElem? hax)
      obtain ⟨ha0, ha1⟩ := e8 a x hget
      obtain ⟨w, rfl⟩ : ∃ w : Nat, a = (w : Int) := ⟨a.toNat, by omega⟩
      have hwm : w < m.length := by omega
      have hil : i < ms.length := (List.getElem?_eq_some_iff.1 hax).1
      have hcx : cur.getD w 0 = x := by have := e7 w hwm; rw [hget] at this; simpa using this.symm
      have np : n7 ≠ n2 := ne_of_live e2 hn7
      have hg6n7 : g6 n7 = none := s7.none hn7
      have hpA : upd g9 n7 (some (.iter n2 (MpE evU .i64 ms).length (seen ++ [i]))) n7 = some (.iter n2 (MpE evU .i64 ms).length (seen ++ [i])) := upd_same _ _ _
      have sA : Sub g6 (upd g9 n7 (some (.iter n2 (MpE evU .i64 ms).length (seen ++ [i])))) := fun l => by
        by_cases el : l = n7
        · subst el; exact .inl hg6n7
        · rw [upd_ne _ _ el]; exact s9 l
      have oA : OwnS encW 1 none0 (upd g9 n7 (some (.iter n2 (MpE evU .i64 ms).length (seen ++ [i])))) v7 out := o9.keepB fun l b h1 h2 => by rw [upd_ne _ _ (fun e : l = n7 => hfb (e ▸ h2))]; exact h1
      generalize upd g9 n7 (some (.iter n2 (MpE evU .i64 ms).length (seen ++ [i]))) = gA at hpA sA oA
      refine kEx (vs := [.bool true, .int .i64 (w : Int), evU x]) rfl (kSplit_t rfl ?_)
      show kIter (ptr n7 0) gA _
      refine kIter_of hpA (sA.live hlive) ?_
      have el1 : (seen ++ [i]).getLast? = some i := by simp
      simp only [el1]
      show kAt (MpE evU .i64 ms) i _
      unfold kAt
      have : (MpE evU .i64 ms)[i]? = some (.int .i64 (w : Int), evU x) := by simp [MpE, List.getElem?_map, hax]
      rw [this]
      refine kEx (vs := [.int .i64 (w : Int), evU x]) rfl (kEx (vs := [.int .i64 (w : Int), evU x]) rfl ?_)
      refine own_put (enc := encW) (z := 1) (c := 0) (y := x) encW_len oA (j := w) (x := out.getD w 0) ?_ (by decide) rfl rfl (fun p l o _ hlb hown => ?_)
      · rw [List.getD_eq_getElem?_getD, List.getElem?_eq_getElem (by omega)]; rfl
      have hnd' : (seen ++ [i]).Nodup := by
        rw [List.nodup_append]
        exact ⟨hnd, by simp, fun a ha b hb => by simp at hb; subst hb; exact fun e => hi (e ▸ ha)⟩
      have hlt' : ∀ j ∈ seen ++ [i], j < ms.length := fun j hj => by
        rcases List.mem_append.1 hj with hj | hj
        · exact hlt j hj
        · simp at hj; subst hj; exact hil
      have hle := nodup_le ms.length _ hnd' hlt'
      rw [List.length_append, List.length_singleton] at hle
      have hlf : g6 l = none := f6 l hlb
      have hl7 : l ≠ n7 := fun e => hfb (e ▸ hlb)
      refine ih (mm - 1) _ _ _ (by omega) ⟨seen ++ [i], out.set w x, by rw [List.length_append, List.length_singleton]; omega, t48, t6, t9, fun l' => ?_, by rw [upd_ne _ _ hl7.symm]; exact hpA, hown, hnd', hlt', by simp [hol9], fun i2 hi2 => ?_⟩
      · by_cases el : l' = l
        · subst el; exact .inl hlf
        · rw [upd_ne _ _ el]; exact sA l'
      · by_cases ei : i2 = w
        · subst ei
          left; rw [hcx]; simp [List.getD_eq_getElem?_getD, hol9, hi2]
        · have e2' : (out.set w x).getD i2 0 = out.getD i2 0 := by simp [List.getD_eq_getElem?_getD, List.getElem?_set, show ¬ w = i2 from fun e => ei e.symm]
          rw [e2']
          rcases hov i2 hi2 with h | ⟨h, hno⟩
          · exact .inl h
          · refine .inr ⟨h, fun idx hidx x' => ?_⟩
            rcases List.mem_append.1 hidx with hidx | hidx
            · exact hno idx hidx x'
            · simp at hidx; subst hidx
              rw [hax]; intro e; simp at e; omega
  · rw [if_neg hc] at hK
    simp only [model_Run_j2]
    show kNil (ptr (n2 + 1) 0) _
    simp only [kNil_p, kPtr_p]
    refine kLd_of e1 rfl ?_
    exact aRet_of (Sub.refl _) (hK v7 vt g7 n7 s07 o7 e3)
end Go.Proofs.Ytldlimkjhppjbaa.Gen

namespace Go.Proofs.Ytldlimkjhppjbaa.Gen
open Go Go.Proofs.Ytldlimkjhppjbaa.Abs Go.RowKit
variable {g gO : G} {n lb : Nat} {vm vo vt : Value} {room : Int} {m cur tl : List Int}
def rCells (vo vt : Value) : List Value := [vo, vt, .int .i64 0]
structure Rn (gO g : G) (lb : Nat) (vo vt : Value) (cur tl : List Int) : Prop where
  sub : Sub gO g
  fr : ∀ l ∈ ObjF lb [vo, vt], gO l = none
  ob : Ob g lb [vo, vt]
  ho : OwnS encW 1 none0 g vo cur
  ht : OwnS encW 1 none0 g vt tl
  hb : g lb = some (.cells (rCells vo vt) .exact)
theorem Rn.mono {g' : G} (h : Rn gO g lb vo vt cur tl) (s : Sub g g') : Rn gO g' lb vo vt cur tl :=
  ⟨h.sub.trans s, h.fr, h.ob.keep fun _ _ hl _ => s.live hl, h.ho.mono s, h.ht.mono s, s.live h.hb⟩
theorem Rn.live (h : Rn gO g lb vo vt cur tl) : ∀ l ∈ ObjF lb [vo, vt], ∃ b, g l = some b := fun l hl => by
  rcases List.mem_cons.1 hl with rfl | hl
  · exact ⟨_, h.hb⟩
  · exact h.ob.live l hl
/-- one word more is told -/
theorem Rn.tell {x : Int} {K : Value → G → Nat → Prop} (h : Rn gO g lb vo vt cur tl) (hl : tl.length < 1000000) (hn : g n = none)
    (hK : ∀ v g' n', (∀ l b, g l = some b → l ∉ ObjF lb [vo, vt] → g' l = some b) → Rn gO g' lb vo v cur (tl ++ [x]) → K v g' n') :
    kAppend vt (.slice (some ⟨n, 0, none⟩) 1 1) 1 8 (upd g n (some (.cells (encW x) .exact))) (n + 1) fun v g' n' => kSt g' lb (0 + 1) v fun g'' => K v g'' n' := by
  have hs := (Sub.refl g).new hn (some (.cells (encW x) .exact))
  have o1 : [x].length = 1 := rfl
  refine own_app (g := upd g n (some (.cells (encW x) .exact))) (h.ht.mono hs) (Sl.one (x := x) rfl (upd_same _ _ _)) encW_cell (by decide) (by rw [o1]; omega) (by rw [o1]; omega) (by simp) (fun v' g' n' ho hk hf => ?_)
  have hf' : ∀ l ∈ blks v', g l = none := fun l hl => hs.none (hf l hl)
  have hk' : ∀ l b, g l = some b → l ∉ blks vt → g' l = some b := fun l b hl hnl => hk l b (hs.live hl) hnl
  obtain ⟨q1, q2, q3, q4, q5⟩ := Ob.app (A := [vo]) (B := []) (b1 := .cells (rCells vo v') .exact) h.ob h.hb hk' hf' (fun l hl => ho.there l hl (by simp))
  refine kSt_of q5 rfl (by simp [rCells]) ho.isCell ?_
  obtain ⟨u1, u2⟩ := Updsub h.sub h.fr q4
  exact hK v' _ n' (fun l b h1 h2 => q4.1 l b h1 h2) ⟨u1, u2, q1, h.ho.keepB (q2 vo (by simp)), ho.keepB q3, upd_same _ _ _⟩
theorem Rn.put {x : Int} {w : Nat} {K : Value → G → Prop} (h : Rn gO g lb vo vt cur tl) (hw : w < cur.length)
    (hK : ∀ p g', (∀ l b, g l = some b → l ∉ ObjF lb [vo, vt] → g' l = some b) → Rn gO g' lb vo vt (cur.set w x) tl → K p g') :
    kIndexAddr vo (.int .i64 (w : Nat)) 1 fun p => kPtr p fun l o => kSt g l o (.int .u64 x) (K p) := by
  refine own_put (enc := encW) (z := 1) (c := 0) (y := x) (K := fun p l o => K p) encW_len h.ho (x := cur.getD w 0) ?_ (by decide) rfl rfl (fun p l o _ hlb hown => ?_)
  · rw [List.getD_eq_getElem?_getD, List.getElem?_eq_getElem hw]; rfl
  obtain ⟨q1, q2, q3, q4⟩ := Ob.elem (A := []) (B := [vt]) (b1 := .cells (((cur.set w x).map encW).flatten) (bkOf 1 vo)) h.ob hlb
  obtain ⟨u1, u2⟩ := Updsub h.sub h.fr q4
  exact hK p _ (fun l b h1 h2 => q4.1 l b h1 h2) ⟨u1, u2, q1, hown, h.ht.keepB (q2 vt (by simp)), q3 _ h.hb⟩
theorem Rn.get {w : Nat} {K : Value → Value → Prop} (h : Rn gO g lb vo vt cur tl) (hw : w < cur.length) (hK : ∀ p, K p (.int .u64 (cur.getD w 0))) : kIndexAddr vo (.int .i64 (w : Nat)) 1 fun p => kPtr p fun l o => kLd g l o (K p) := by
  refine h.ho.sl.idx encW_len (x := cur.getD w 0) ?_ fun l o ha => ?_
  · rw [List.getD_eq_getElem?_getD, List.getElem?_eq_getElem hw]; rfl
  · rw [kPtr_p]; exact ha.ld (i := 0) rfl (hK _)
theorem splice3 {a b c : Value} {cs : List Value} (h : cs.length = 3) : splice cs 0 [a, b, c] = [a, b, c] := splice_all (by simp [h])
set_option maxHeartbeats 1000000 in
theorem rEnd_spec {code : Int} (h : Rn gO g lb vo vt cur tl) (hv : Sl encW 1 gO vm m) (h0 : 0 < m.length) (hml : m.length ≤ 1000) (hl : tl.length < 1000000) {K : Cont}
    (hK : ∀ vo' vt' g' n', Sub gO g' → OwnS encW 1 none0 g' vo' (if code = 101 then cur else m) → OwnS encW 1 none0 g' vt' (tl ++ [code]) → (∀ l ∈ blks vo', gO l = none) → (∀ l ∈ blks vt', gO l = none) → K (.agg (rCells vo' vt').toArray) g' n') :
    AC bellowsref26_Ran_end_id [.agg (rCells vo vt).toArray, vm, .int .u64 code] g n K := by
  refine ACalls.fold X0_mono ?_
  rw [← bellowsref26_Ran_end_eq]
  simp only [bellowsref26_Ran_end, kAgg_a]
  intro hn
  have s1 := (Sub.refl g).new hn (some (.cells (rCells vo vt) .exact))
  have hb1 : upd g n (some (.cells (rCells vo vt) .exact)) n = some (.cells (rCells vo vt) .exact) := upd_same _ _ _
  generalize upd g n (some (.cells (rCells vo vt) .exact)) = g1 at s1 hb1
  intro hn1
  have s2 := (Sub.refl g1).new hn1 (some (.cells [(.slice none 0 0), (.slice none 0 0), (.int .i64 0)] .exact))
  have hb2 : upd g1 (n + 1) (some (.cells [(.slice none 0 0), (.slice none 0 0), (.int .i64 0)] .exact)) (n + 1) = some (.cells [(.slice none 0 0), (.slice none 0 0), (.int .i64 0)] .exact) := upd_same _ _ _
  generalize upd g1 (n + 1) (some (.cells [(.slice none 0 0), (.slice none 0 0), (.int .i64 0)] .exact)) = g2 at s2 hb2
  have s02 := s1.trans s2
  have nd := h.ob.nd
  simp only [ObjF, List.flatMap_cons, List.flatMap_nil, List.append_nil, List.nodup_cons, List.nodup_append] at nd
  have lvo : ∀ l ∈ blks vo, (∃ b, g l = some b) ∧ gO l = none ∧ l ∉ blks vt := fun l hl => ⟨h.live l (by simp [ObjF, hl]), h.fr l (by simp [ObjF, hl]), fun hm => nd.2.2.2 l hl l hm rfl⟩
  have lvt : ∀ l ∈ blks vt, (∃ b, g l = some b) ∧ gO l = none := fun l hl => ⟨h.live l (by simp [ObjF, hl]), h.fr l (by simp [ObjF, hl])⟩
  have gn1 : g (n + 1) = none := s1.none hn1
  have nvo : n ∉ blks vo ∧ n + 1 ∉ blks vo := ⟨(fun hm => by obtain ⟨b, hb⟩ := (lvo _ hm).1; rw [hn] at hb; cases hb), (fun hm => by obtain ⟨b, hb⟩ := (lvo _ hm).1; rw [gn1] at hb; cases hb)⟩
  have nvt : n ∉ blks vt ∧ n + 1 ∉ blks vt := ⟨(fun hm => by obtain ⟨b, hb⟩ := (lvt _ hm).1; rw [hn] at hb; cases hb), (fun hm => by obtain ⟨b, hb⟩ := (lvt _ hm).1; rw [gn1] at hb; cases hb)⟩
  refine kLd_of (s2.live hb1) rfl (fillW _ _ fun hn2 => ?_)
  have s3 := (Sub.refl g2).new hn2 (some (.cells (encW code) .exact))
  have s03 := s02.trans s3
  have o1 : [code].length = 1 := rfl
  refine own_app (g := upd g2 (n + 1 + 1) (some (.cells (encW code) .exact))) (h.ht.mono s03) (Sl.one (x := code) rfl (upd_same _ _ _)) encW_cell (by decide) (by rw [o1]; omega) (by rw [o1]; omega) (by simp) (fun v11 g4 n4 ho4 hk4 hf4 => ?_)
  have b4 : g4 n = some (.cells (rCells vo vt) .exact) := hk4 _ _ ((s2.trans s3).live hb1) nvt.1
  have z4 : g4 (n + 1) = some (.cells [(.slice none 0 0), (.slice none 0 0), (.int .i64 0)] .exact) := hk4 _ _ (s3.live hb2) nvt.2
  have n11 : n ∉ blks v11 ∧ n + 1 ∉ blks v11 := ⟨(fun hm => by have := hf4 _ hm; rw [(s2.trans s3).live hb1] at this; cases this), (fun hm => by have := hf4 _ hm; rw [s3.live hb2] at this; cases this)⟩
  refine kSt_of b4 rfl (by simp [rCells]) ho4.isCell ?_
  have gOn : gO n = none := h.sub.none hn
  have gOn1 : gO (n + 1) = none := h.sub.none gn1
  have s5 : Sub gO (upd g4 n (some (.cells ((rCells vo vt).set (0 + 1) v11) .exact))) := fun l => by
    by_cases e : l = n
    · subst e; exact .inl gOn
    · rw [upd_ne _ _ e]
      cases hq : gO l with
      | none => exact .inl rfl
      | some b => exact .inr (hk4 l b ((h.sub.trans s03).live hq) (fun hm => by rw [(lvt _ hm).2] at hq; cases hq)).symm
  have b5 : upd g4 n (some (.cells ((rCells vo vt).set (0 + 1) v11) .exact)) n = some (.cells (rCells vo v11) .exact) := upd_same _ _ _
  have z5 : upd g4 n (some (.cells ((rCells vo vt).set (0 + 1) v11) .exact)) (n + 1) = some (.cells [(.slice none 0 0), (.slice none 0 0), (.int .i64 0)] .exact) := by rw [upd_ne _ _ (by omega)]; exact z4
  have o5 : OwnS encW 1 none0 (upd g4 n (some (.cells ((rCells vo vt).set (0 + 1) v11) .exact))) vo cur := h.ho.keepB fun l b q1 q2 => by
    rw [upd_ne _ _ (fun e : l = n => nvo.1 (e ▸ q2))]; exact hk4 l b (s03.live q1) (lvo l q2).2.2
  have t5 : OwnS encW 1 none0 (upd g4 n (some (.cells ((rCells vo vt).set (0 + 1) v11) .exact))) v11 (tl ++ [code]) := ho4.keepB fun l b q1 q2 => by
    rw [upd_ne _ _ (fun e : l = n => n11.1 (e ▸ q2))]; exact q1
  generalize upd g4 n (some (.cells ((rCells vo vt).set (0 + 1) v11) .exact)) = g5 at s5 b5 z5 o5 t5
  have f11 : ∀ l ∈ blks v11, gO l = none := fun l hl => (h.sub.trans s03).none (hf4 l hl)
  rw [kBin_neq]
  refine kSplit_d (fun hc => ?_) (fun hc => ?_)
  · rw [if_neg hc] at hK
    rw [kFill_nil]
    intro hn5
    have s6 := (Sub.refl g5).new hn5 (some (.cells (reps 0 [.int .u64 0]) .exact))
    generalize upd g5 n4 (some (.cells (reps 0 [.int .u64 0]) .exact)) = g6 at s6
    refine own_app (g := g6) (xs := ([] : List Int)) (v := .slice (some ⟨n4, 0, none⟩) 0 0) OwnS.empty (hv.mono (s5.trans s6)) encW_cell (by decide) (by simp; omega) (by simp; omega) h0 (fun v17 g7 n7 ho7 hk7 hf7 => ?_)
    rw [List.nil_append] at ho7
    have e4 : ∀ {l : Nat} {b : Blk}, g5 l = some b → l ≠ n4 := fun hl e => by rw [e, hn5] at hl; cases hl
    have k57 : Sub g5 g7 := fun l => by
      cases hq : g5 l with
      | none => exact .inl rfl
      | some b => exact .inr (hk7 l b (s6.live hq) (fun hm => e4 hq (by simpa [blks, blkOf] using hm))).symm
    have f7 : ∀ l ∈ blks v17, g5 l = none := fun l hl => s6.none (hf7 l hl)
    have n17 : n ∉ blks v17 ∧ n + 1 ∉ blks v17 := ⟨(fun hm => by have := f7 _ hm; rw [b5] at this; cases this), (fun hm => by have := f7 _ hm; rw [z5] at this; cases this)⟩
    refine kSt_of (k57.live b5) rfl (by simp [rCells]) ho7.isCell (kLdN_of (upd_same _ _ _) (by simp [rCells]) ?_)
    refine ⟨by simp [rCells], kStN_of (by rw [upd_ne _ _ (by omega)]; exact k57.live z5) rfl (by simp [rCells]) (by simp [rCells, ho7.isCell, t5.isCell]; rfl) ?_⟩
    refine kLdN_of (upd_same _ _ _) (by simp [rCells, splice]) (aRet_of (Sub.refl _) ?_)
    refine hK v17 v11 _ _ (fun l => ?_) (ho7.keepB fun l b q1 q2 => ?_) ((t5.mono k57).keepB fun l b q1 q2 => ?_) (fun l hl => s5.none (f7 l hl)) f11
    · by_cases e1 : l = n + 1
      · subst e1; exact .inl gOn1
      · rw [upd_ne _ _ e1]
        by_cases e2 : l = n
        · subst e2; exact .inl gOn
        · rw [upd_ne _ _ e2]; exact (s5.trans k57) l
    · rw [upd_ne _ _ (fun e : l = n + 1 => n17.2 (e ▸ q2)), upd_ne _ _ (fun e : l = n => n17.1 (e ▸ q2))]; exact q1
    · rw [upd_ne _ _ (fun e : l = n + 1 => n11.2 (e ▸ q2)), upd_ne _ _ (fun e : l = n => n11.1 (e ▸ q2))]; exact q1
  · rw [if_pos (by omega)] at hK
    refine kLdN_of b5 (by simp [rCells]) ?_
    refine ⟨by simp [rCells], kStN_of z5 rfl (by simp [rCells]) (by simp [rCells, o5.isCell, t5.isCell]; rfl) ?_⟩
    refine kLdN_of (upd_same _ _ _) (by simp [rCells, splice]) (aRet_of (Sub.refl _) ?_)
    refine hK vo v11 _ _ (fun l => ?_) (o5.keepB fun l b q1 q2 => ?_) (t5.keepB fun l b q1 q2 => ?_) (fun l hl => (lvo l hl).2.1) f11
    · by_cases e1 : l = n + 1
      · subst e1; exact .inl gOn1
      · rw [upd_ne _ _ e1]; exact s5 l
    · rw [upd_ne _ _ (fun e : l = n + 1 => nvo.2 (e ▸ q2))]; exact q1
    · rw [upd_ne _ _ (fun e : l = n + 1 => n11.2 (e ▸ q2))]; exact q1
end Go.Proofs.Ytldlimkjhppjbaa.Gen

namespace Go.Proofs.Ytldlimkjhppjbaa.Gen
open Go Go.Proofs.Ytldlimkjhppjbaa.Abs Go.RowKit
variable {g gO : G} {n lb : Nat} {vm vo vt : Value} {room : Int} {m cur tl : List Int}
abbrev zR : List Value := [(.slice none 0 0), (.slice none 0 0), (.int .i64 0)]
theorem fillR (hc : isCell vo = true) (K : List Value → Prop) (k : K (rCells vo (.slice none 0 0))) : kFill zR [(0, none, vo)] K := ⟨hc, by simp, k⟩
/-- the end of a run, put into the result's block -/
theorem fin_spec {l6 : Nat} {t : TxT} {code : Int} (hg6 : gO l6 = some (.cells zR .exact)) (h : Rn gO g lb vo vt cur tl) (hv : Sl encW 1 gO vm m) (h0 : 0 < m.length) (hml : m.length ≤ 1000) (hl : tl.length < 1000000) {gB : G} (hB : Sub gB gO) (hB6 : gB l6 = none)
    (hrun : runTx room t m = (if code = 101 then cur else m, tl ++ [code])) {K : Cont}
    (hK : ∀ va vt g' n', Sub gB g' → OwnS encW 1 none0 g' va (runTx room t m).1 → OwnS encW 1 none0 g' vt (runTx room t m).2 → (∀ l ∈ blks va, gB l = none) → (∀ l ∈ blks vt, gB l = none) → K (.agg (rCells va vt).toArray) g' n') :
    kLdN g lb 0 3 fun c53 => AC bellowsref26_Ran_end_id [.agg c53.toArray, vm, .int .u64 code] g n fun v55 g14 n55 => kAgg v55 fun cg => cg.length = 3 ∧ kStN g14 l6 0 cg fun g15 => kLdN g15 l6 0 3 fun r0 => aRet K (.agg r0.toArray) g15 n55 := by
  refine kLdN_of h.hb (by simp [rCells]) ?_
  refine rEnd_spec h hv h0 hml hl (fun vo' vt' g' n' s o1 o2 f1 f2 => ?_)
  rw [kAgg_a]
  have n6o : l6 ∉ blks vo' := fun hm => by rw [f1 _ hm] at hg6; cases hg6
  have n6t : l6 ∉ blks vt' := fun hm => by rw [f2 _ hm] at hg6; cases hg6
  refine ⟨by simp [rCells], kStN_of (s.live hg6) rfl (by simp [rCells]) (by simp [rCells, o1.isCell, o2.isCell]; rfl) ?_⟩
  refine kLdN_of (upd_same _ _ _) (by simp [rCells, splice]) (aRet_of (Sub.refl _) ?_)
  rw [hrun] at hK
  refine hK vo' vt' _ _ (fun l => ?_) (o1.keepB fun l b q1 q2 => ?_) (o2.keepB fun l b q1 q2 => ?_) (fun l hl => hB.none (f1 l hl)) (fun l hl => hB.none (f2 l hl))
  · by_cases e : l = l6
    · subst e; exact .inl hB6
    · rw [upd_ne _ _ e]; exact (hB.trans s) l
  · rw [upd_ne _ _ (fun e : l = l6 => n6o (e ▸ q2))]; exact q1
  · rw [upd_ne _ _ (fun e : l = l6 => n6t (e ▸ q2))]; exact q1
set_option maxHeartbeats 2000000 in
theorem rRun_spec {vp : Value} {t : TxT} (hv : Sl encW 1 g vm m) (hp : Sl encO 3 g vp t.ops) (hg : GoodT t.ops) (hr0 : 0 ≤ room) (hr : room ≤ 1000) (h0 : 0 < m.length) (hml : m.length ≤ 1000) {K : Cont}
    (hK : ∀ va vt g' n', Sub g g' → OwnS encW 1 none0 g' va (runTx room t m).1 → OwnS encW 1 none0 g' vt (runTx room t m).2 → (∀ l ∈ blks va, g l = none) → (∀ l ∈ blks vt, g l = none) → K (.agg (rCells va vt).toArray) g' n') :
    AC bellowsref26_Run_id [vm, .int .i64 room, .agg ([vp, .bool t.abort] : List Value).toArray] g n K := by
  refine ACalls.fold X0_mono ?_
  rw [← bellowsref26_Run_eq]
  simp only [bellowsref26_Run, kAgg_a]
  intro hn
  have s1 := (Sub.refl g).new hn (some (.cells [vp, .bool t.abort] .exact))
  have hb1 : upd g n (some (.cells [vp, .bool t.abort] .exact)) n = some (.cells [vp, .bool t.abort] .exact) := upd_same _ _ _
  generalize upd g n (some (.cells [vp, .bool t.abort] .exact)) = g1 at s1 hb1
  intro hn1
  have s2 := (Sub.refl g1).new hn1 (some (.cells zR .exact))
  have hb2 : upd g1 (n + 1) (some (.cells zR .exact)) (n + 1) = some (.cells zR .exact) := upd_same _ _ _
  have gn6 : g (n + 1) = none := s1.none hn1
  generalize upd g1 (n + 1) (some (.cells zR .exact)) = g2 at s2 hb2
  have hol := hg.1
  refine kLdN_of (s2.live hb1) (by simp) (rGood_spec ((hp.mono s1).mono s2) (by omega) fun g3 n3 s3 => ?_)
  have s03 := (s1.trans s2).trans s3
  have hb5 := (s2.trans s3).live hb1
  have hb6 := s3.live hb2
  rw [kUn_not]
  refine kSplit_f (by simp [hg]) ?_
  rw [kBin_lss]
  refine kSplit_f (by simp; omega) ?_
  rw [kBin_gtr]
  refine kSplit_f (by simp; omega) ((hv.mono s03).len ?_)
  rw [kBin_gtr]
  refine kSplit_f (by simp; omega) ?_
  rw [kFill_nil]
  intro hn3
  have s4 := (Sub.refl g3).new hn3 (some (.cells (reps 0 [.int .u64 0]) .exact))
  generalize upd g3 n3 (some (.cells (reps 0 [.int .u64 0]) .exact)) = g4 at s4
  refine own_app (g := g4) (xs := ([] : List Int)) (v := .slice (some ⟨n3, 0, none⟩) 0 0) OwnS.empty (hv.mono (s03.trans s4)) encW_cell (by decide) (by simp; omega) (by simp; omega) h0 (fun v29 g9 n9 ho9 hk9 hf9 => ?_)
  rw [List.nil_append] at ho9
  have s39 : Sub g3 g9 := fun l => by
    cases hq : g3 l with
    | none => exact .inl rfl
    | some b => exact .inr (hk9 l b (s4.live hq) (fun hm => by simp [blks, blkOf] at hm; subst hm; rw [hn3] at hq; cases hq)).symm
  have f29 : ∀ l ∈ blks v29, g3 l = none := fun l hl => s4.none (hf9 l hl)
  refine fillR ho9.isCell _ (fun hn9 => ⟨by simp [rCells], kStN_of (upd_same _ _ _) rfl (by simp [rCells]) (by simp [rCells, ho9.isCell]; exact ⟨rfl, rfl⟩) ?_⟩)
  have n29 : n9 ∉ blks v29 := fun hm => by obtain ⟨b, hb⟩ := ho9.there n9 hm (by omega); rw [hn9] at hb; cases hb
  have esp : splice zR 0 (rCells v29 (.slice none 0 0)).toArray.toList = rCells v29 (.slice none 0 0) := rfl
  rw [esp, upd_upd]
  have s10 := (Sub.refl g9).new hn9 (some (.cells (rCells v29 (.slice none 0 0)) .exact))
  have hw : Rn g3 (upd g9 n9 (some (.cells (rCells v29 (.slice none 0 0)) .exact))) n9 v29 (.slice none 0 0) m [] := by
    have eF : ObjF n9 [v29, .slice none 0 0] = n9 :: blks v29 := by simp [ObjF, blks, blkOf]
    refine ⟨s39.trans s10, fun l hl => ?_, ⟨?_, fun l hl => ?_⟩, ho9.mono s10, OwnS.nil, upd_same _ _ _⟩
    · rw [eF] at hl
      rcases List.mem_cons.1 hl with rfl | hl
      · exact s39.none hn9
      · exact f29 l hl
    · rw [eF, List.nodup_cons]; exact ⟨n29, blks_nodup _⟩
    · simp only [List.flatMap_cons, List.flatMap_nil, List.append_nil] at hl
      have e0 : blks (.slice none 0 0) = [] := by simp [blks, blkOf]
      rw [e0, List.append_nil] at hl
      obtain ⟨b, hb⟩ := ho9.there l hl (by omega)
      exact ⟨b, s10.live hb⟩
  generalize upd g9 n9 (some (.cells (rCells v29 (.slice none 0 0)) .exact)) = gA at hw
  have hv3 := hv.mono s03
  have hp3 := hp.mono s03
  refine lfp_ind (m := t.ops.length) (Inv := fun mm e gx nx => ∃ (j k : Nat) (cur tl : List Int) (vo vt : Value), mm + j = t.ops.length ∧ Rn g3 gx n9 vo vt cur tl ∧ e 0 = vm ∧ e 1 = .int .i64 room ∧ e 5 = ptr n 0 ∧ e 6 = ptr (n + 1) 0 ∧ e 7 = ptr n9 0 ∧ e 8 = .int .i64 (k : Nat) ∧ e 9 = .int .i64 (j : Nat) ∧ runOps room (t.ops.drop j) (cur, k, tl) = runOps room t.ops (m, 0, []) ∧ tl.length ≤ j ∧ k ≤ j ∧ cur.length = m.length) ?_
    ⟨0, 0, m, [], v29, .slice none 0 0, by omega, hw, rfl, rfl, rfl, rfl, rfl, rfl, rfl, rfl, by simp, by simp, rfl⟩
  rintro I mm e gx nx ih ⟨j, k, cur, tl, vo, vt, hm, hw, t0, t1, t5, t6, t7, t8, t9, hrun, htl, hkj, hcl⟩
  have fin : ∀ (code c0 : Int) (g' : G) (n' : Nat), runOps room t.ops (m, 0, []) = (cur, tl, c0) → codeOf t.abort c0 = code → Rn g3 g' n9 vo vt cur tl →
      kLdN g' n9 0 3 fun c53 => AC bellowsref26_Ran_end_id [.agg c53.toArray, vm, .int .u64 code] g' n' fun v55 g14 n55 => kAgg v55 fun cg => cg.length = 3 ∧ kStN g14 (n + 1) 0 cg fun g15 => kLdN g15 (n + 1) 0 3 fun r0 => aRet K (.agg r0.toArray) g15 n55 := fun code c0 g' n' h1 h2 h3 =>
    fin_spec (room := room) (t := t) hb6 h3 hv3 h0 hml (by omega) s03 gn6 (by unfold runTx; simp only [h1, h2]) hK
  simp only [bellowsref26_Run_l1, t0, t1, t5, t6, t7, t8, t9, kPtr_p]
  have hb5x := hw.sub.live hb5
  refine kLd_of hb5x rfl ((hp3.mono hw.sub).len ?_)
  rw [kBin_lss]
  refine kSplit_d (fun hj => ?_) (fun hj => ?_)
  · have hj : j < t.ops.length := by omega
    have hget : t.ops[j]? = some t.ops[j] := List.getElem?_eq_getElem hj
    generalize t.ops[j] = o at hget
    rw [drop_get hget] at hrun
    have hgo := hg.2 o (List.mem_of_getElem? hget)
    obtain ⟨k1, k2, k3, k4, k5⟩ := hgo
    refine kLd_of hb5x rfl ((hp3.mono hw.sub).idx encO_len hget (fun l p ha => ?_))
    simp only [kPtr_p]
    refine ha.ldN rfl (fun hnx => copyO hnx rfl fun s3x hb3 => ?_)
    have hne : nx ∉ ObjF n9 [vo, vt] := fun hm => by obtain ⟨b, hb⟩ := hw.live _ hm; rw [hnx] at hb; cases hb
    have hw3 := hw.mono s3x
    generalize upd gx nx (some (.cells (encO o) .exact)) = gy at s3x hb3 hw3
    have badw : o.w < 0 ∨ (cur.length : Int) ≤ o.w → runOps room t.ops (m, 0, []) = (cur, tl, 103) := fun hb => by
      rw [← hrun]; unfold runOps; rw [if_pos hb]
    refine kLd_of hb3 rfl ?_
    rw [kBin_lss]
    refine kSplit_d (fun c1 => fin 103 103 _ _ (badw (.inl c1)) rfl hw3) (fun c1 => ?_)
    refine kLd_of hb3 rfl ((hv3.mono hw3.sub).len ?_)
    rw [kBin_geq]
    refine kSplit_d (fun c2 => fin 103 103 _ _ (badw (.inr (by rw [hcl]; exact c2))) rfl hw3) (fun c2 => ?_)
    have hrun2 : (match stepO room (cur, k, tl) o with | none => (cur, tl, 102) | some s' => runOps room (t.ops.drop (j + 1)) s') = runOps room t.ops (m, 0, []) := by
      rw [← hrun]; conv => rhs; unfold runOps
      (rw [if_neg (by rw [hcl]; omega)]) <;> (cases stepO room (cur, k, tl) o <;> rfl)
    obtain ⟨w, ew⟩ : ∃ w : Nat, o.w = (w : Int) := ⟨o.w.toNat, by omega⟩
    have ewt : o.w.toNat = w := by omega
    have hlw : w < cur.length := by omega
    have j2 : ∀ (t' : Env) (g' : G) (n' : Nat) (s' : St) (vo' vt' : Value), stepO room (cur, k, tl) o = some s' → Rn g3 g' n9 vo' vt' s'.1 s'.2.2 → t' 0 = vm → t' 1 = .int .i64 room → t' 5 = ptr n 0 → t' 6 = ptr (n + 1) 0 → t' 7 = ptr n9 0 → t' 8 = .int .i64 (s'.2.1 : Nat) → t' 9 = .int .i64 (j : Nat) → bellowsref26_Run_j2 AC K I t' g' n' := by
      intro t' g' n' s' vo' vt' hs hw' q0 q1 q5 q6 q7 q8 q9
      simp only [bellowsref26_Run_j2, q9]
      rw [kBin_add, wrap64_of (by omega) (by omega), show ((j : Nat) : Int) + 1 = ((j + 1 : Nat) : Int) by omega]
      rw [hs] at hrun2
      obtain ⟨p1, p2, p3⟩ := stepO_len hs
      simp only at p1 p2 p3
      exact ih (mm - 1) _ _ _ (by omega) ⟨j + 1, s'.2.1, s'.1, s'.2.2, vo', vt', by omega, hw', q0, q1, q5, q6, q7, q8, rfl, hrun2, by omega, by omega, by rw [p1, hcl]⟩
    have full : stepO room (cur, k, tl) o = none → runOps room t.ops (m, 0, []) = (cur, tl, 102) := fun hs => by rw [← hrun2, hs]
    have tellK : ∀ {gz : G} {nz : Nat} {vo' : Value} {cur' : List Int} (x : Int) {KK : Value → G → Nat → Prop}, Rn g3 gz n9 vo' vt cur' tl → (∀ v g' n', Rn g3 g' n9 vo' v cur' (tl ++ [x]) → KK v g' n') → gz nz = none → kAppend vt (.slice (some ⟨nz, 0, none⟩) 1 1) 1 8 (upd gz nz (some (.cells (encW x) .exact))) (nz + 1) fun v g' n' => kSt g' n9 (0 + 1) v fun g'' => KK v g'' n' := fun x _ hz hk hnz =>
      hz.tell (by omega) hnz fun v g' n' _ hw' => hk v g' n' hw'
    refine kLd_of hb3 rfl ?_
    rw [kBin_eql]
    refine kSplit_d (fun ck => ?_) (fun ck => ?_)
    · refine kLd_of hw3.hb rfl (kLd_of hw3.hb rfl (kLd_of hb3 rfl ?_))
      show kIndexAddr vo (.int .i64 o.w) 1 _
      rw [ew]
      refine hw3.get hlw fun p => fillW _ _ fun hny => ⟨upd_ne _ _ (ne_of_live hw3.hb hny).symm, ?_⟩
      refine tellK _ hw3 (fun v g' n' hw' => j2 _ _ _ (cur, k, tl ++ [cur.getD w 0]) vo v ?_ hw' t0 t1 t5 t6 t7 t8 t9) hny
      unfold stepO; rw [if_pos ck, ewt]
    refine kLd_of hb3 rfl ?_
    rw [kBin_eql]
    refine kSplit_d (fun c4 => ?_) (fun c4 => ?_)
    · refine kLd_of hw3.hb rfl (kLd_of hb3 rfl ?_)
      show kIndexAddr vo (.int .i64 o.w) 1 _
      rw [ew]
      refine hw3.get hlw fun p => ?_
      rw [kBin_neq]
      refine kSplit_d (fun cv => ?_) (fun cv => ?_)
      · refine kLd_of hw3.hb rfl (fillW _ _ fun hny => ?_)
        refine tellK _ hw3 (fun v g' n' hw' => j2 _ _ _ (cur, k, tl ++ [0]) vo v ?_ hw' t0 t1 t5 t6 t7 t8 t9) hny
        unfold stepO; rw [if_neg ck, ewt, if_pos ⟨c4, cv⟩]
      · rw [kBin_geq]
        refine kSplit_d (fun hx => fin 102 102 _ _ (full ?_) rfl hw3) (fun hx => ?_)
        · unfold stepO; rw [if_neg ck, ewt, if_neg (by rintro ⟨_, h⟩; exact cv h), if_pos hx]
        · rw [kBin_add, wrap64_of (by omega) (by omega), show (k : Int) + 1 = ((k + 1 : Nat) : Int) by omega]
          refine kLd_of hb3 rfl ?_
          rw [kBin_eql]
          refine kSplit_f (by simp; omega) ?_
          rw [kBin_eql]
          refine kSplit_f (by simp; omega) ?_
          rw [kBin_eql]
          refine kSplit_t (by simp; omega) (kLd_of hw3.hb rfl (kLd_of hb3 rfl (kLd_of hb3 rfl ?_)))
          show kIndexAddr vo (.int .i64 o.w) 1 _
          rw [ew]
          refine hw3.put (x := o.v) hlw fun p g' hkp hw4 => kLd_of hw4.hb rfl (fillW _ _ fun hny => ?_)
          refine tellK _ hw4 (fun v g' n' hw' => j2 _ _ _ (cur.set w o.v, k + 1, tl ++ [1]) vo v ?_ hw' t0 t1 t5 t6 t7 rfl t9) hny
          unfold stepO; rw [if_neg ck, ewt, if_neg (by rintro ⟨_, h⟩; exact cv h), if_neg hx, if_neg (by omega), if_neg (by omega)]
    · rw [kBin_geq]
      refine kSplit_d (fun hx => fin 102 102 _ _ (full ?_) rfl hw3) (fun hx => ?_)
      · unfold stepO; rw [if_neg ck, if_neg (by omega), if_pos hx]
      · rw [kBin_add, wrap64_of (by omega) (by omega), show (k : Int) + 1 = ((k + 1 : Nat) : Int) by omega]
        refine kLd_of hb3 rfl ?_
        rw [kBin_eql]
        refine kSplit_d (fun c2' => ?_) (fun c2' => ?_)
        · refine kLd_of hw3.hb rfl (kLd_of hb3 rfl (kLd_of hb3 rfl ?_))
          show kIndexAddr vo (.int .i64 o.w) 1 _
          rw [ew]
          refine hw3.put (x := o.v) hlw fun p g' hkp hw4 => j2 _ _ _ (cur.set w o.v, k + 1, tl) vo vt ?_ hw4 t0 t1 t5 t6 t7 rfl t9
          unfold stepO; rw [if_neg ck, ewt, if_neg (by omega), if_neg hx, if_pos c2']
        · rw [kBin_eql]
          refine kSplit_t (by simp; omega) (kLd_of hw3.hb rfl (kLd_of hb3 rfl ?_))
          show kIndexAddr vo (.int .i64 o.w) 1 _
          rw [ew]
          refine hw3.get hlw fun p => kLd_of hb3 rfl ?_
          rw [kBin_add]
          have ex : IntKind.u64.wrap (cur.getD w 0 + o.v) = wrapU (o.v + cur.getD w 0) := by unfold wrapU; rw [Int.add_comm]
          rw [ex]
          refine hw3.put (x := wrapU (o.v + cur.getD w 0)) hlw fun p2 g' hkp hw4 => kLd_of hw4.hb rfl (kLd_of hw4.hb rfl (kLd_of (hkp _ _ hb3 hne) rfl ?_))
          show kIndexAddr vo (.int .i64 o.w) 1 _
          rw [ew]
          refine hw4.get (w := w) (by simpa using hlw) fun p3 => fillW _ _ fun hny => ⟨upd_ne _ _ (ne_of_live hw4.hb hny).symm, ?_⟩
          have e3 : (cur.set w (wrapU (o.v + cur.getD w 0))).getD w 0 = wrapU (o.v + cur.getD w 0) := by simp [List.getD_eq_getElem?_getD, hlw]
          rw [e3] at *
          refine tellK _ hw4 (fun v g' n' hw' => j2 _ _ _ (cur.set w (wrapU (o.v + cur.getD w 0)), k + 1, tl ++ [wrapU (o.v + cur.getD w 0)]) vo v ?_ hw' t0 t1 t5 t6 t7 rfl t9) hny
          unfold stepO; rw [if_neg ck, ewt, if_neg (by omega), if_neg hx, if_neg c2', if_pos (by omega)]
  · have j3 : ∀ t' : Env, t' 0 = vm → t' 5 = ptr n 0 → t' 6 = ptr (n + 1) 0 → t' 7 = ptr n9 0 → bellowsref26_Run_j3 AC K t' gx nx := by
      intro t' q0 q5 q6 q7
      simp only [bellowsref26_Run_j3, q0, q5, q6, q7, kPtr_p]
      rw [List.drop_eq_nil_of_le (by omega)] at hrun
      have e1 : runOps room [] (cur, k, tl) = (cur, tl, 0) := rfl
      rw [e1] at hrun
      refine kLd_of hb5x rfl (kSplit_c (fun hab => ?_) (fun hab => ?_))
      · exact fin 104 0 gx nx hrun.symm (by unfold codeOf; rw [hab]; rfl) hw
      · exact fin 101 0 gx nx hrun.symm (by unfold codeOf; rw [hab]; rfl) hw
    exact j3 _ t0 t5 t6 t7
end Go.Proofs.Ytldlimkjhppjbaa.Gen

namespace Go.Proofs.Ytldlimkjhppjbaa.Abs
open Go Go.RowKit
variable {g : G} {n : Nat}
section
variable {α : Type} {R : G → List Value → α → Prop} {z : Nat} {v : Value} {xs : List α}
theorem SlR.mono {g' : G} (hR : ∀ c x, R g c x → R g' c x) (h : SlR R z g v xs) (s : Sub g g') : SlR R z g' v xs := by
  obtain ⟨els, h1, h2, h3⟩ := h
  exact ⟨els, h1.mono s, h2, fun i c x hc hx => ⟨(h3 i c x hc hx).1, hR c x (h3 i c x hc hx).2⟩⟩
theorem SlR.len {K : Value → Prop} (h : SlR R z g v xs) (k : K (.int .i64 xs.length)) : kLen v K := by
  obtain ⟨els, h1, h2, h3⟩ := h
  exact h1.len k
theorem flatV_at {z : Nat} : ∀ (els : List (List Value)) (j : Nat) (c : List Value), (∀ c ∈ els, c.length = z) → els[j]? = some c → (els.flatten.drop (j * z)).take z = c
  | [], j, c, _, h => by simp at h
  | a :: r, 0, c, hz, h => by
    simp at h; subst h
    have := hz a (by simp)
    simp [List.take_append_of_le_length, this]
  | a :: r, j + 1, c, hz, h => by
    have ha := hz a (by simp)
    rw [List.flatten_cons, List.drop_append, List.drop_eq_nil_of_le (by rw [ha, Nat.add_mul]; omega), List.nil_append, ha, Nat.add_mul, Nat.one_mul, Nat.add_sub_cancel]
    exact flatV_at r j c (fun c hc => hz c (List.mem_cons_of_mem _ hc)) (by simpa using h)
theorem SlR.idx {j : Nat} {x : α} {kk : IntKind} {K : Value → Prop} (h : SlR R z g v xs) (hj : xs[j]? = some x) (k : ∀ l o c, At g l o c → c.length = z → R g c x → K (ptr l o)) : kIndexAddr v (.int kk j) z K := by
  obtain ⟨els, h1, h2, h3⟩ := h
  have hlt : j < xs.length := (List.getElem?_eq_some_iff.1 hj).1
  have hc : els[j]? = some (els[j]'(by omega)) := List.getElem?_eq_getElem (by omega)
  generalize els[j]'(by omega) = c at hc
  have hz : ∀ c ∈ els, c.length = z := fun c hc => by
    obtain ⟨i, hi, rfl⟩ := List.mem_iff_getElem.1 hc
    exact (h3 i _ _ (List.getElem?_eq_getElem hi) (List.getElem?_eq_getElem (by omega))).1
  obtain ⟨q1, q2⟩ := h3 j c x hc hj
  refine h1.idx (by omega) (by omega) (fun l o ha => k l o c ?_ q1 q2)
  rw [Int.toNat_natCast, flatV_at els j c hz hc] at ha
  exact ha
/-! ## what is built anew -/
def Dif (gS g gH : G) : Prop := ∀ l b, g l = some b → gS l = none → gH l = some b
theorem Dif.refl (gS g : G) : Dif gS g g := fun _ _ h _ => h
def hideV (g : G) (v : Value) : G := fun l => if l ∈ blks v then none else g l
theorem hideV_some {l : Nat} {b : Blk} : hideV g v l = some b ↔ l ∉ blks v ∧ g l = some b := by
  unfold hideV; by_cases h : l ∈ blks v <;> simp [h]
structure BB (R : G → List Value → α → Prop) (z : Nat) (gS g : G) (v : Value) (xs : List α) : Prop where
  els : ∃ els : List (List Value), Own none0 g v z els.length els.flatten ∧ els.length = xs.length ∧ ∀ (i : Nat) c x, els[i]? = some c → xs[i]? = some x → c.length = z ∧ (∀ gH, Dif gS (hideV g v) gH → R gH c x)
  sub : Sub gS (hideV g v)
  live : ∀ l ∈ blks v, ∃ b, g l = some b
theorem BB.nil (gS : G) : BB R z gS gS (.slice none 0 0) [] :=
  ⟨⟨[], Own.nil _ _ _, rfl, by simp⟩, by intro l; right; simp [hideV, blks, blkOf], by simp [blks, blkOf]⟩
theorem BB.sub' {gS : G} (h : BB R z gS g v xs) : Sub gS g := fun l => by
  rcases h.sub l with h1 | h1
  · exact .inl h1
  · unfold hideV at h1
    by_cases hl : l ∈ blks v
    · rw [if_pos hl] at h1; exact .inl h1
    · rw [if_neg hl] at h1; exact .inr h1
/-- a row more, whose own slices are new -/
theorem BB.app {gS g1 : G} {c : List Value} {x : α} {bytes : Nat} {K : Cont} (h : BB R z gS g v xs) (s : Sub g g1) (hc : c.length = z) (hcell : ∀ v ∈ c, isCell v = true) (hR : ∀ gH, Dif g g1 gH → R gH c x) (hn : g1 n = none) (hb : bytes ≤ 1024) (hsz : xs.length ≤ 1000000)
    (hK : ∀ v' g' n', BB R z gS g' v' (xs ++ [x]) → K v' g' n') : kAppend v (.slice (some ⟨n, 0, none⟩) 1 1) z bytes (upd g1 n (some (.cells c .exact))) (n + 1) K := by
  obtain ⟨els, h1, h2, h3⟩ := h.els
  have s2 := (Sub.refl g1).new hn (some (.cells c .exact))
  have s02 := s.trans s2
  have hm : (els.length + 1) * bytes ≤ 1000001 * 1024 := Nat.mul_le_mul (by omega) hb
  have hx : Rd (upd g1 n (some (.cells c .exact))) (.slice (some ⟨n, 0, none⟩) 1 1) z 1 c := Rd.lit (upd_same _ _ _) (by omega)
  refine append_own (none0_sub _) (h1.mono s02) hx hcell (by omega) (by omega) (by omega) (fun v' g' n' _ h4 h5 h6 => ?_)
  have hk : ∀ l b, g l = some b → l ∉ blks v → g' l = some b := fun l b hl hnl => h5 l b (s02.live hl) (fun e => hnl (mem_blks.2 e))
  have hf : ∀ l ∈ blks v', g1 l = none := fun l hl => s2.none (h6 (by decide) l (mem_blks.1 hl))
  have hsH : Sub (hideV g v) (hideV g' v') := fun l => by
    cases hq : hideV g v l with
    | none => exact .inl rfl
    | some b =>
      obtain ⟨q1, q2⟩ := hideV_some.1 hq
      exact .inr (hideV_some.2 ⟨(fun hm => by rw [s.none (hf l hm)] at q2; cases q2), hk l b q2 q1⟩).symm
  refine hK v' g' n' ⟨⟨els ++ [c], by simpa using h4, by simp [h2], fun i c2 x2 hc2 hx2 => ?_⟩, h.sub.trans hsH, fun l hl => ?_⟩
  · rcases Nat.lt_or_ge i els.length with hi | hi
    · rw [List.getElem?_append_left hi] at hc2
      rw [List.getElem?_append_left (by omega)] at hx2
      obtain ⟨q1, q2⟩ := h3 i c2 x2 hc2 hx2
      exact ⟨q1, fun gH hD => q2 gH fun l b hl hS => hD l b (hsH.live hl) hS⟩
    · rw [List.getElem?_append_right hi] at hc2
      rw [List.getElem?_append_right (by omega)] at hx2
      have e1 : i - els.length = 0 := by
        rcases Nat.eq_zero_or_pos (i - els.length) with h | h
        · exact h
        · rw [List.getElem?_eq_none (by simp; omega)] at hc2; cases hc2
      have e2 : i - xs.length = 0 := by omega
      rw [e1] at hc2; rw [e2] at hx2
      simp at hc2 hx2; subst hc2; subst hx2
      refine ⟨hc, fun gH hD => hR gH fun l b hl hS => ?_⟩
      have hlv : l ∉ blks v := fun hm => by obtain ⟨b', hb'⟩ := h.live l hm; rw [hS] at hb'; cases hb'
      refine hD l b (hideV_some.2 ⟨(fun hm => by rw [hf l hm] at hl; cases hl), h5 l b (s2.live hl) (fun e => hlv (mem_blks.2 e))⟩) ?_
      exact h.sub'.none hS
  · rcases h4 with ⟨h0, _⟩ | ⟨l', c', bk, rfl, hg, _⟩
    · omega
    · simp [blks, blkOf] at hl; subst hl; exact ⟨_, hg⟩
theorem BB.done {gS : G} (h : BB R z gS g v xs) : ∀ gH, Dif gS g gH → SlR R z gH v xs := fun gH hD => by
  obtain ⟨els, h1, h2, h3⟩ := h.els
  refine ⟨els, ?_, h2, fun i c x hc hx => ?_⟩
  · have := h1.rd
    rw [h2] at this
    obtain ⟨a, cc, rfl, q1, q2, q3⟩ := this
    refine ⟨a, cc, rfl, q1, q2, fun h0 => ?_⟩
    obtain ⟨l, o, bs, bk, rfl, hg, q4⟩ := q3 h0
    refine ⟨l, o, bs, bk, rfl, hD l _ hg ?_, q4⟩
    rcases h.sub l with h4 | h4
    · exact h4
    · rw [h4]; unfold hideV; rw [if_pos (by simp [blks, blkOf])]
  · obtain ⟨q1, q2⟩ := h3 i c x hc hx
    exact ⟨q1, q2 gH fun l b hl hS => hD l b (hideV_some.1 hl).2 hS⟩
end
end Go.Proofs.Ytldlimkjhppjbaa.Abs

namespace Go.Proofs.Ytldlimkjhppjbaa.Abs
open Go Go.RowKit
variable {g : G} {n : Nat}
section
variable {α : Type} {R : G → List Value → α → Prop} {z : Nat} {v : Value} {xs : List α}
theorem hideV_sub (g : G) (v : Value) : Sub (hideV g v) g := fun l => by
  unfold hideV; by_cases h : l ∈ blks v
  · rw [if_pos h]; exact .inl rfl
  · rw [if_neg h]; exact .inr rfl
theorem hideV_mono {g g1 : G} (s : Sub g g1) (v : Value) : Sub (hideV g v) (hideV g1 v) := fun l => by
  cases hq : hideV g v l with
  | none => exact .inl rfl
  | some b =>
    obtain ⟨q1, q2⟩ := hideV_some.1 hq
    exact .inr (hideV_some.2 ⟨q1, s.live q2⟩).symm
/-- a slice of one's own whose rows stand in a relation on the heap without it -/
structure BS (R : G → List Value → α → Prop) (z : Nat) (g : G) (v : Value) (xs : List α) : Prop where
  els : ∃ els : List (List Value), Own none0 g v z els.length els.flatten ∧ els.length = xs.length ∧ ∀ (i : Nat) c x, els[i]? = some c → xs[i]? = some x → c.length = z ∧ R (hideV g v) c x
  live : ∀ l ∈ blks v, ∃ b, g l = some b
theorem BS.nil : BS R z g (.slice none 0 0) [] := ⟨⟨[], Own.nil _ _ _, rfl, by simp⟩, by simp [blks, blkOf]⟩
theorem BS.mono {g1 : G} (hR : ∀ {a b : G} c x, Sub a b → R a c x → R b c x) (h : BS R z g v xs) (s : Sub g g1) : BS R z g1 v xs := by
  obtain ⟨⟨els, h1, h2, h3⟩, hl⟩ := h
  exact ⟨⟨els, h1.mono s, h2, fun i c x hc hx => ⟨(h3 i c x hc hx).1, hR c x (hideV_mono s v) (h3 i c x hc hx).2⟩⟩, fun l hm => let ⟨b, hb⟩ := hl l hm; ⟨b, s.live hb⟩⟩
theorem BS.slR (hR : ∀ {a b : G} c x, Sub a b → R a c x → R b c x) (h : BS R z g v xs) : SlR R z g v xs := by
  obtain ⟨⟨els, h1, h2, h3⟩, _⟩ := h
  exact ⟨els, by rw [← h2]; exact h1.rd, h2, fun i c x hc hx => ⟨(h3 i c x hc hx).1, hR c x (hideV_sub g v) (h3 i c x hc hx).2⟩⟩
theorem BS.isCell (h : BS R z g v xs) : Abs.isCell v = true := by
  obtain ⟨⟨els, h1, _⟩, _⟩ := h
  rcases h1 with ⟨_, _, a, rfl, ha⟩ | ⟨l, c, bk, rfl, _⟩
  · rcases ha with rfl | ⟨_, _, rfl⟩ <;> rfl
  · rfl
/-- a row more; what lies beside the slice stays -/
theorem BS.app {c : List Value} {x : α} {bytes : Nat} {K : Cont} (hmo : ∀ {a b : G} c x, Sub a b → R a c x → R b c x) (h : BS R z g v xs) (hc : c.length = z) (hcell : ∀ v ∈ c, Abs.isCell v = true) (hR : R (hideV g v) c x) (hn : g n = none) (hb : bytes ≤ 1024) (hsz : xs.length ≤ 1000000)
    (hK : ∀ v' g' n', BS R z g' v' (xs ++ [x]) → Sub (hideV g v) (hideV g' v') → K v' g' n') : kAppend v (.slice (some ⟨n, 0, none⟩) 1 1) z bytes (upd g n (some (.cells c .exact))) (n + 1) K := by
  obtain ⟨els, h1, h2, h3⟩ := h.els
  have s2 := (Sub.refl g).new hn (some (.cells c .exact))
  have hm : (els.length + 1) * bytes ≤ 1000001 * 1024 := Nat.mul_le_mul (by omega) hb
  have hx : Rd (upd g n (some (.cells c .exact))) (.slice (some ⟨n, 0, none⟩) 1 1) z 1 c := Rd.lit (upd_same _ _ _) (by omega)
  refine append_own (none0_sub _) (h1.mono s2) hx hcell (by omega) (by omega) (by omega) (fun v' g' n' _ h4 h5 h6 => ?_)
  have hf : ∀ l ∈ blks v', g l = none := fun l hl => s2.none (h6 (by decide) l (mem_blks.1 hl))
  have hsH : Sub (hideV g v) (hideV g' v') := fun l => by
    cases hq : hideV g v l with
    | none => exact .inl rfl
    | some b =>
      obtain ⟨q1, q2⟩ := hideV_some.1 hq
      refine .inr (hideV_some.2 ⟨fun hm => ?_, h5 l b (s2.live q2) (fun e => q1 (mem_blks.2 e))⟩).symm
      rw [hf l hm] at q2; cases q2
  refine hK v' g' n' ⟨⟨els ++ [c], by simpa using h4, by simp [h2], fun i c2 x2 hc2 hx2 => ?_⟩, fun l hl => ?_⟩ hsH
  · rcases Nat.lt_or_ge i els.length with hi | hi
    · rw [List.getElem?_append_left hi] at hc2
      rw [List.getElem?_append_left (by omega)] at hx2
      obtain ⟨q1, q2⟩ := h3 i c2 x2 hc2 hx2
      exact ⟨q1, hmo _ _ hsH q2⟩
    · rw [List.getElem?_append_right hi] at hc2
      rw [List.getElem?_append_right (by omega)] at hx2
      have e1 : i - els.length = 0 := by
        rcases Nat.eq_zero_or_pos (i - els.length) with h | h
        · exact h
        · rw [List.getElem?_eq_none (by simp; omega)] at hc2; cases hc2
      have e2 : i - xs.length = 0 := by omega
      rw [e1] at hc2; rw [e2] at hx2
      simp at hc2 hx2; subst hc2; subst hx2
      exact ⟨hc, hmo _ _ hsH hR⟩
  · rcases h4 with ⟨h0, _⟩ | ⟨l', c', bk, rfl, hg, _⟩
    · omega
    · simp [blks, blkOf] at hl; subst hl; exact ⟨_, hg⟩
end
end Go.Proofs.Ytldlimkjhppjbaa.Abs

namespace Go.Proofs.Ytldlimkjhppjbaa.Gen
open Go Go.Proofs.Ytldlimkjhppjbaa.Abs Go.RowKit
variable {g : G} {n : Nat}
def TxC (g : G) (c : List Value) (t : TxT) : Prop := ∃ v, c = [v, .bool t.abort] ∧ Sl encO 3 g v t.ops
def TsC (g : G) (c : List Value) (ts : List TxT) : Prop := ∃ v, c = [v] ∧ SlR TxC 2 g v ts
theorem TxC.mono {g' : G} (s : Sub g g') (c : List Value) (t : TxT) (h : TxC g c t) : TxC g' c t := by
  obtain ⟨v, rfl, h⟩ := h; exact ⟨v, rfl, h.mono s⟩
theorem TsC.mono {g' : G} (s : Sub g g') (c : List Value) (t : List TxT) (h : TsC g c t) : TsC g' c t := by
  obtain ⟨v, rfl, h⟩ := h; exact ⟨v, rfl, h.mono (fun c x h => TxC.mono s c x h) s⟩
theorem Sl.isCell {α : Type} {enc : α → List Value} {z : Nat} {v : Value} {xs : List α} (h : Sl enc z g v xs) : Abs.isCell v = true := by
  obtain ⟨a, c, rfl, _, ha, _⟩ := h
  rcases ha with rfl | ⟨_, _, rfl⟩ <;> rfl
theorem SlR.isCell {α : Type} {R : G → List Value → α → Prop} {z : Nat} {v : Value} {xs : List α} (h : SlR R z g v xs) : Abs.isCell v = true := by
  obtain ⟨els, ⟨a, c, rfl, _, ha, _⟩, _⟩ := h
  rcases ha with rfl | ⟨_, _, rfl⟩ <;> rfl
def Fair25 (ts : List TxT) : Prop := ts.length ≤ 12 ∧ ∀ t ∈ ts, t.ops.length ≤ 30
instance (ts : List TxT) : Decidable (Fair25 ts) := by unfold Fair25; infer_instance
theorem Fair25_spec {v : Value} {ts : List TxT} (hv : SlR TxC 2 g v ts) (hlen : ts.length < 4611686018427387904) {K : Cont} (hK : ∀ n', K (.bool (decide (Fair25 ts))) g n') : AC bellowslaw25_Fair_id [v] g n K := by
  refine ACalls.fold X0_mono ?_
  rw [← bellowslaw25_Fair_eq]
  simp only [bellowslaw25_Fair]
  refine lfp_ind (m := ts.length) (Inv := fun m t g2 n2 => ∃ j : Nat, m + j = ts.length ∧ g2 = g ∧ t 0 = v ∧ t 3 = .int .i64 (j : Nat) ∧ ∀ x ∈ ts.take j, x.ops.length ≤ 30) ?_ ⟨0, by omega, rfl, rfl, rfl, by simp⟩
  rintro I m t g2 n2 ih ⟨j, hm, rfl, t0, t3, hall⟩
  simp only [bellowslaw25_Fair_l1, t0, t3]
  refine hv.len ?_
  rw [kBin_lss]
  refine kSplit_d (fun hj => ?_) (fun hj => ?_)
  · have hj : j < ts.length := by omega
    have hget : ts[j]? = some ts[j] := List.getElem?_eq_getElem hj
    generalize ts[j] = x at hget
    refine hv.idx hget (fun l o c ha hc hx => ?_)
    obtain ⟨vo, rfl, ho⟩ := hx
    simp only [kPtr_p]
    refine ha.ld (i := 0) rfl (ho.len ?_)
    rw [kBin_gtr]
    refine kSplit_d (fun h30 => ?_) (fun h30 => ?_)
    · have := hK n2
      rw [decide_eq_false (fun h : Fair25 ts => by have := h.2 _ (List.mem_of_getElem? hget); omega)] at this
      exact aRet_of (Sub.refl _) this
    · rw [kBin_add, wrap64_of (by omega) (by omega), show ((j : Nat) : Int) + 1 = ((j + 1 : Nat) : Int) by omega]
      refine ih (m - 1) _ _ _ (by omega) ⟨j + 1, by omega, rfl, t0, rfl, fun y hy => ?_⟩
      rw [take_add hget] at hy
      rcases List.mem_append.1 hy with hy | hy
      · exact hall y hy
      · simp at hy; subst hy; omega
  · simp only [bellowslaw25_Fair_j2]
    show kLen (t 0) _
    rw [t0]
    refine hv.len ?_
    rw [kBin_leq]
    rw [List.take_of_length_le (by omega)] at hall
    have := hK n2
    have e : decide (Fair25 ts) = decide ((ts.length : Int) ≤ 12) := by
      rw [Bool.eq_iff_iff]; simp only [decide_eq_true_eq]
      exact ⟨fun h => by have := h.1; omega, fun h => ⟨by omega, hall⟩⟩
    rw [e] at this
    exact aRet_of (Sub.refl _) this
def Fair27 (txs : List (List TxT)) : Prop := txs.length ≤ 10 ∧ ∀ ts ∈ txs, Fair25 ts
instance (txs : List (List TxT)) : Decidable (Fair27 txs) := by unfold Fair27; infer_instance
theorem Fair27_spec {v : Value} {txs : List (List TxT)} (hv : SlR TsC 1 g v txs) (hlen : txs.length < 4611686018427387904) (hl2 : ∀ ts ∈ txs, ts.length < 4611686018427387904) {K : Cont} (hK : ∀ n', K (.bool (decide (Fair27 txs))) g n') : AC bellowslaw27_Fair_id [v, .slice none 0 0] g n K := by
  refine ACalls.fold X0_mono ?_
  rw [← bellowslaw27_Fair_eq]
  simp only [bellowslaw27_Fair]
  refine lfp_ind (m := txs.length) (Inv := fun m t g2 n2 => ∃ j : Nat, m + j = txs.length ∧ g2 = g ∧ t 0 = v ∧ t 1 = .slice none 0 0 ∧ t 5 = .int .i64 (j : Nat) ∧ ∀ x ∈ txs.take j, Fair25 x) ?_ ⟨0, by omega, rfl, rfl, rfl, rfl, by simp⟩
  rintro I m t g2 n2 ih ⟨j, hm, rfl, t0, t1, t5, hall⟩
  simp only [bellowslaw27_Fair_l1, t0, t5]
  refine hv.len ?_
  rw [kBin_lss]
  refine kSplit_d (fun hj => ?_) (fun hj => ?_)
  · have hj : j < txs.length := by omega
    have hget : txs[j]? = some txs[j] := List.getElem?_eq_getElem hj
    generalize txs[j] = x at hget
    refine hv.idx hget (fun l o c ha hc hx => ?_)
    obtain ⟨vo, rfl, ho⟩ := hx
    simp only [kPtr_p]
    refine ha.ld (i := 0) rfl (Fair25_spec ho (hl2 _ (List.mem_of_getElem? hget)) fun n' => ?_)
    rw [kUn_not]
    by_cases hF : Fair25 x
    · refine kSplit_f (by simp [hF]) ?_
      rw [kBin_add, wrap64_of (by omega) (by omega), show ((j : Nat) : Int) + 1 = ((j + 1 : Nat) : Int) by omega]
      refine ih (m - 1) _ _ _ (by omega) ⟨j + 1, by omega, rfl, t0, t1, rfl, fun y hy => ?_⟩
      rw [take_add hget] at hy
      rcases List.mem_append.1 hy with hy | hy
      · exact hall y hy
      · simp at hy; subst hy; exact hF
    · have := hK n'
      rw [decide_eq_false (fun h : Fair27 txs => hF (h.2 _ (List.mem_of_getElem? hget)))] at this
      exact kSplit_t (by simp [hF]) (aRet_of (Sub.refl _) this)
  · simp only [bellowslaw27_Fair_j2]
    show kLen (t 0) _
    rw [t0]
    refine hv.len ?_
    rw [kBin_leq]
    rw [List.take_of_length_le (by omega)] at hall
    have := hK n2
    have e : decide (Fair27 txs) = decide ((txs.length : Int) ≤ 10) := by
      rw [Bool.eq_iff_iff]; simp only [decide_eq_true_eq]
      exact ⟨fun h => by have := h.1; omega, fun h => ⟨by omega, hall⟩⟩
    rw [e] at this
    refine kSplit_c (fun h => ?_) (fun h => ?_)
    · show kLen (t 1) _
      rw [t1, kLen_s, kBin_leq]
      rw [h] at this
      exact aRet_of (Sub.refl _) this
    · rw [h] at this; exact aRet_of (Sub.refl _) this
/-- ops of one's own -/
theorem cloneO {v : Value} {xs : List OpT} {K : Cont} (hv : Sl encO 3 g v xs) (hlen : xs.length ≤ 1000000) (hn : g n = none) (hK : ∀ v' g' n', Sub g g' → (∀ gH, Dif g g' gH → Sl encO 3 gH v' xs) → K v' g' n') :
    kAppend (.slice (some ⟨n, 0, none⟩) 0 0) v 3 24 (upd g n (some (.cells (reps 0 [.int .i64 0, .int .i64 0, .int .u64 0]) .exact))) (n + 1) K := by
  have hs := (Sub.refl g).new hn (some (.cells (reps 0 [.int .i64 0, .int .i64 0, .int .u64 0]) .exact))
  generalize upd g n (some (.cells (reps 0 [.int .i64 0, .int .i64 0, .int .u64 0]) .exact)) = g1 at hs
  refine OwnS.append (g0 := g) (xs := ([] : List OpT)) (v := .slice (some ⟨n, 0, none⟩) 0 0) OwnS.empty hs (hv.mono hs) encO_cell (by decide) (by simp; omega) (by simp; omega) (fun v' g' n' h3 h4 h5 h6 => ?_)
  rw [List.nil_append] at h4
  refine hK v' g' n' h3 (fun gH hD => ?_)
  obtain ⟨a, cc, rfl, q1, q2, q3⟩ := h4.sl
  refine ⟨a, cc, rfl, q1, q2, fun h0 => ?_⟩
  obtain ⟨l, o, bs, bk, rfl, hg, q4⟩ := q3 h0
  exact ⟨l, o, bs, bk, rfl, hD l _ hg (hs.none (h6 h0 l rfl)), q4⟩
theorem fillTx {v : Value} {b : Bool} (hc : Abs.isCell v = true) (K : List Value → Prop) (k : K [v, .bool b]) : kFill [(.slice none 0 0), (.bool false)] [(0, none, v), (1, none, .bool b)] K := ⟨hc, by simp, rfl, by simp, k⟩
theorem fillTx1 {v : Value} {b : Bool} (K : List Value → Prop) (k : K [v, .bool b]) : kFill (reps 1 [(.slice none 0 0), (.bool false)]) [(0, (some 2), .agg ([v, .bool b] : List Value).toArray)] K := ⟨rfl, by simp [reps], k⟩
theorem fillV1 {v : Value} (hc : Abs.isCell v = true) (K : List Value → Prop) (k : K [v]) : kFill (reps 1 [(.slice none 0 0)]) [(0, none, v)] K := ⟨hc, by simp [reps], k⟩
set_option maxHeartbeats 1000000 in
theorem Copied25_spec {v : Value} {ts : List TxT} (hv : SlR TxC 2 g v ts) (hF : Fair25 ts) {K : Cont} (hK : ∀ v' g' n', Sub g g' → (∀ gH, Dif g g' gH → SlR TxC 2 gH v' ts) → K v' g' n') : AC bellowslaw25_Copied_id [v] g n K := by
  refine ACalls.fold X0_mono ?_
  rw [← bellowslaw25_Copied_eq]
  simp only [bellowslaw25_Copied]
  have h12 := hF.1
  refine lfp_ind (m := ts.length) (Inv := fun m t g2 n2 => ∃ (j : Nat) (w : Value), m + j = ts.length ∧ t 0 = v ∧ t 3 = w ∧ t 4 = .int .i64 (j : Nat) ∧ BB TxC 2 g g2 w (ts.take j)) ?_ ⟨0, .slice none 0 0, by omega, rfl, rfl, rfl, BB.nil g⟩
  rintro I m t g2 n2 ih ⟨j, w, hm, t0, t3, t4, hB⟩
  have hv2 := hv.mono (fun c x h => TxC.mono hB.sub' c x h) hB.sub'
  simp only [bellowslaw25_Copied_l1, t0, t3, t4]
  refine hv2.len ?_
  rw [kBin_lss]
  refine kSplit_d (fun hj => ?_) (fun hj => ?_)
  · have hj : j < ts.length := by omega
    have hget : ts[j]? = some ts[j] := List.getElem?_eq_getElem hj
    generalize ts[j] = x at hget
    have hx30 := hF.2 x (List.mem_of_getElem? hget)
    refine hv2.idx hget (fun l o c ha hc hx => ?_)
    obtain ⟨vo, rfl, ho⟩ := hx
    simp only [kPtr_p]
    refine ha.ld (i := 0) rfl (hv2.idx hget (fun l2 o2 c2 ha2 hc2 hx2 => ?_))
    obtain ⟨vo2, rfl, ho2⟩ := hx2
    simp only [kPtr_p]
    refine ha2.ld (i := 1) rfl ?_
    rw [kFill_nil]
    intro hn2
    obtain ⟨bs1, bk1, e1, _⟩ := id ha
    obtain ⟨bs2, bk2, e2, _⟩ := id ha2
    refine ⟨upd_ne _ _ (ne_of_live e1 hn2).symm, upd_ne _ _ (ne_of_live e2 hn2).symm, ?_⟩
    refine cloneO ho (by omega) hn2 (fun v3 g3 n3 s3 hD3 => ⟨?_, ?_⟩)
    · rw [upd_ne _ _ (ne_of_live e2 hn2).symm]; exact (s3.live e2).trans e2.symm
    have hv3 : Sl encO 3 g3 v3 x.ops := hD3 g3 (Dif.refl _ _)
    refine fillTx (Sl.isCell hv3) _ (fillTx1 _ fun hn3 => ?_)
    refine hB.app (x := x) s3 rfl (by simp [Sl.isCell hv3]; rfl) (fun gH hD => ⟨v3, rfl, hD3 gH hD⟩) hn3 (by decide) (by rw [List.length_take]; omega) (fun v' g' n' hB' => ?_)
    rw [kBin_add, wrap64_of (by omega) (by omega), show ((j : Nat) : Int) + 1 = ((j + 1 : Nat) : Int) by omega]
    exact ih (m - 1) _ _ _ (by omega) ⟨j + 1, v', by omega, t0, rfl, rfl, by rw [take_add hget]; exact hB'⟩
  · rw [List.take_of_length_le (by omega)] at hB
    exact aRet_of (Sub.refl _) (hK _ _ _ hB.sub' hB.done)
set_option maxHeartbeats 1000000 in
theorem Copied27_spec {v : Value} {txs : List (List TxT)} (hv : SlR TsC 1 g v txs) (hF : Fair27 txs) {K : Cont} (hK : ∀ v' g' n', Sub g g' → SlR TsC 1 g' v' txs → K v' g' n') : AC bellowslaw27_Copied_id [v] g n K := by
  refine ACalls.fold X0_mono ?_
  rw [← bellowslaw27_Copied_eq]
  simp only [bellowslaw27_Copied]
  have h12 := hF.1
  refine lfp_ind (m := txs.length) (Inv := fun m t g2 n2 => ∃ (j : Nat) (w : Value), m + j = txs.length ∧ t 0 = v ∧ t 3 = w ∧ t 4 = .int .i64 (j : Nat) ∧ BB TsC 1 g g2 w (txs.take j)) ?_ ⟨0, .slice none 0 0, by omega, rfl, rfl, rfl, BB.nil g⟩
  rintro I m t g2 n2 ih ⟨j, w, hm, t0, t3, t4, hB⟩
  have hv2 := hv.mono (fun c x h => TsC.mono hB.sub' c x h) hB.sub'
  simp only [bellowslaw27_Copied_l1, t0, t3, t4]
  refine hv2.len ?_
  rw [kBin_lss]
  refine kSplit_d (fun hj => ?_) (fun hj => ?_)
  · have hj : j < txs.length := by omega
    have hget : txs[j]? = some txs[j] := List.getElem?_eq_getElem hj
    generalize txs[j] = x at hget
    have hx25 := hF.2 x (List.mem_of_getElem? hget)
    refine hv2.idx hget (fun l o c ha hc hx => ?_)
    obtain ⟨vo, rfl, ho⟩ := hx
    simp only [kPtr_p]
    refine ha.ld (i := 0) rfl (Copied25_spec ho hx25 fun v3 g3 n3 s3 hD3 => ?_)
    have hv3 : SlR TxC 2 g3 v3 x := hD3 g3 (Dif.refl _ _)
    refine fillV1 (SlR.isCell hv3) _ (fun hn3 => ?_)
    refine hB.app (x := x) s3 rfl (by simp [SlR.isCell hv3]) (fun gH hD => ⟨v3, rfl, hD3 gH hD⟩) hn3 (by decide) (by rw [List.length_take]; omega) (fun v' g' n' hB' => ?_)
    rw [kBin_add, wrap64_of (by omega) (by omega), show ((j : Nat) : Int) + 1 = ((j + 1 : Nat) : Int) by omega]
    exact ih (m - 1) _ _ _ (by omega) ⟨j + 1, v', by omega, t0, rfl, rfl, by rw [take_add hget]; exact hB'⟩
  · rw [List.take_of_length_le (by omega)] at hB
    exact aRet_of (Sub.refl _) (hK _ _ _ hB.sub' (hB.done _ (Dif.refl _ _)))
end Go.Proofs.Ytldlimkjhppjbaa.Gen

namespace Go.Proofs.Ytldlimkjhppjbaa.Gen
open Go Go.Proofs.Ytldlimkjhppjbaa.Abs Go.RowKit
variable {g : G} {n : Nat}
theorem kIA0 {l o : Nat} {K : Value → Prop} (k : K (ptr l o)) : kIndexArr (ptr l o) (.int .i64 0) 2 1 K := ⟨by decide, by decide, k⟩
theorem kIA1 {l o : Nat} {K : Value → Prop} (k : K (ptr l (o + 1))) : kIndexArr (ptr l o) (.int .i64 1) 2 1 K := ⟨by decide, by decide, k⟩
theorem copyJ {e : Int × Int} {z : List Value} {K : G → Prop} (hn : g n = none) (hz : z.length = 2) (k : Sub g (upd g n (some (.cells (encJ e) .exact))) → upd g n (some (.cells (encJ e) .exact)) n = some (.cells (encJ e) .exact) → K (upd g n (some (.cells (encJ e) .exact)))) :
    kAgg (.agg (encJ e).toArray) fun cs => cs.length = 2 ∧ kStN (upd g n (some (.cells z .exact))) n 0 cs K := by
  refine ⟨rfl, kStN_of (upd_same _ _ _) rfl (by rw [hz]; simp [encJ]) (encJ_cell e) ?_⟩
  have e1 : splice z 0 (encJ e).toArray.toList = encJ e := by unfold splice; simp [encJ, hz]
  rw [e1, upd_upd]
  exact k ((Sub.refl g).new hn _) (upd_same _ _ _)
theorem begH_len (h : Hp) (l : List Ev) : (begH h l).length ≤ l.length := by
  unfold begH; split
  · have := beg_len (firstE l) []; have := firstE_len l; unfold begF; simp at *; omega
  · simp
theorem SS.isNil {α : Type} {enc : α → List Value} {z : Nat} {v : Value} {cs : List Value} {xss : List (List α)} (h : SS enc z g v cs xss) {K : Value → Prop} (k : ∀ b, K (.bool b)) : kBin .slice .eql v (.slice none 0 0) K := by
  obtain ⟨a, c, rfl, _⟩ := h.ho.sl
  exact k _
theorem kEqNil {ms : List (Int × Value)} {c : Int} (h : ∀ x, mget ms c = some x → ∃ a m k, x = .slice a m k) {K : Value → Prop} (k : ∀ bb, (bb = false → ∃ x, mget ms c = some x) → K (.bool bb)) : kBin .slice .eql (optV id (.slice none 0 0) (mget ms c)) (.slice none 0 0) K := by
  cases hq : mget ms c with
  | none => exact k true (by simp)
  | some x =>
    obtain ⟨a, m, c', rfl⟩ := h x hq
    exact k _ (fun _ => ⟨_, hq⟩)
def ToldM (h : Hp) (xs : List Ev) (g : G) (bs : List (Int × Int)) (ms : List (Int × Value)) : Prop := ∀ b ∈ bs, ∃ v cs, mget ms b.1 = some v ∧ SS encW 1 g v cs (toldH h b.1 xs)
set_option maxHeartbeats 1000000 in
theorem told_spec {h : Hp} {v : Value} {xs : List Ev} (hv : Sl encE 5 g v xs) (hlen : xs.length < 1000000) {K : Cont}
    (hK : ∀ lm ms g' n', Sub g g' → g' lm = some (.map (MpE id .i64 ms)) → ToldM h xs g' (begH h xs) ms → K (.map (some lm)) g' n') : AC serial_told_id [.agg (encH h).toArray, v] g n K := by
  refine ACalls.fold X0_mono ?_
  rw [← serial_told_eq]
  simp only [serial_told, kAgg_a]
  intro hn
  have s1 := (Sub.refl g).new hn (some (.cells (encH h) .exact))
  have hb1 : upd g n (some (.cells (encH h) .exact)) n = some (.cells (encH h) .exact) := upd_same _ _ _
  generalize upd g n (some (.cells (encH h) .exact)) = g1 at s1 hb1
  intro hn1
  have s2 := (Sub.refl g1).new hn1 (some (.map []))
  have hm2 : upd g1 (n + 1) (some (.map [])) (n + 1) = some (.map []) := upd_same _ _ _
  generalize upd g1 (n + 1) (some (.map [])) = g2 at s2 hm2
  refine ldH (s2.live hb1) (Begins_spec ((hv.mono s1).mono s2) hlen fun v11 g3 n3 s3 o3 f3 => ?_)
  have hbl := begH_len h xs
  refine o3.sl.len ?_
  generalize begH h xs = bs at o3 hK hbl
  -- the heap without the map
  have hm3 := s3.live hm2
  have sS : Sub g1 (upd g3 (n + 1) none) := fun l => by
    by_cases e : l = n + 1
    · subst e; exact .inl hn1
    · rw [upd_ne _ _ e]; exact (s2.trans s3) l
  have hbS : upd g3 (n + 1) none n = some (.cells (encH h) .exact) := sS.live hb1
  have o3S := o3.updMap none hm3
  refine lfp_ind (m := bs.length) (Inv := fun m t g4 n4 => ∃ (j : Nat) (ms : List (Int × Value)), m + j = bs.length ∧ t 11 = v11 ∧ t 12 = .int .i64 (bs.length : Nat) ∧ t 13 = .int .i64 (j : Nat) ∧ t 5 = .map (some (n + 1)) ∧ t 2 = ptr n 0 ∧ t 1 = v ∧ Sub (upd g3 (n + 1) none) (upd g4 (n + 1) none) ∧ g4 (n + 1) = some (.map (MpE id .i64 ms)) ∧ (∀ c x, mget ms c = some x → ∃ cs, SS encW 1 (upd g4 (n + 1) none) x cs (toldH h c xs)) ∧ ∀ b ∈ bs.take j, ∃ x, mget ms b.1 = some x) ?_
    ⟨0, [], by omega, rfl, rfl, rfl, rfl, rfl, rfl, Sub.refl _, hm3, by simp [mget], by simp⟩
  rintro I m t g4 n4 ih ⟨j, ms, hm, t11, t12, t13, t5, t2, t1, hs, hmap, hss, hall⟩
  have hs4 : Sub (upd g4 (n + 1) none) g4 := fun l => by
    by_cases e : l = n + 1
    · subst e; exact .inl (upd_same _ _ _)
    · exact .inr (upd_ne _ _ e)
  simp only [serial_told_l1, t11, t12, t13, t5, t2, t1, kBin_lss, kPtr_p]
  refine kSplit_d (fun hj => ?_) (fun hj => ?_)
  · have hj : j < bs.length := by omega
    have hget : bs[j]? = some bs[j] := List.getElem?_eq_getElem hj
    generalize bs[j] = b at hget
    refine (o3S.sl.mono (hs.trans hs4)).idx encJ_len hget (fun l o ha => ?_)
    simp only [kPtr_p]
    refine ha.ldN rfl (fun hn4 => copyJ hn4 rfl fun s5 hb5 => ?_)
    have hmap5 := s5.live hmap
    have s5H : Sub (upd g4 (n + 1) none) (upd (upd g4 n4 (some (.cells (encJ b) .exact))) (n + 1) none) := s5.upd _ _
    generalize upd g4 n4 (some (.cells (encJ b) .exact)) = g5 at s5 hb5 hmap5 s5H
    refine kIA0 ?_
    rw [kPtr_p]
    refine kLd_of hb5 rfl (kLookup_m (ev := id) hmap5 ?_)
    have next : ∀ (t' : Env) (g' : G) (n' : Nat) (ms' : List (Int × Value)), t' 11 = v11 → t' 12 = .int .i64 (bs.length : Nat) → t' 13 = .int .i64 ((j + 1 : Nat) : Int) → t' 5 = .map (some (n + 1)) → t' 2 = ptr n 0 → t' 1 = v → Sub (upd g4 (n + 1) none) (upd g' (n + 1) none) → g' (n + 1) = some (.map (MpE id .i64 ms')) →
        (∀ c x, mget ms' c = some x → ∃ cs, SS encW 1 (upd g' (n + 1) none) x cs (toldH h c xs)) → (∀ c x, mget ms c = some x → ∃ x, mget ms' c = some x) → (∃ x, mget ms' b.1 = some x) → I t' g' n' := by
      intro t' g' n' ms' q11 q12 q13 q5 q2 q1 hs' hm' hss' hmo hb'
      refine ih (m - 1) _ _ _ (by omega) ⟨j + 1, ms', by omega, q11, q12, q13, q5, q2, q1, hs.trans hs', hm', hss', fun b2 hb2 => ?_⟩
      rw [take_add hget] at hb2
      rcases List.mem_append.1 hb2 with hb2 | hb2
      · obtain ⟨x, hx⟩ := hall b2 hb2; exact hmo _ _ hx
      · simp at hb2; subst hb2; exact hb'
    have ej : IntKind.i64.wrap ((j : Int) + 1) = ((j + 1 : Nat) : Int) := by rw [wrap64_of (by omega) (by omega)]; omega
    have hb5h : g5 n = some (.cells (encH h) .exact) := s5.live (hs4.live (hs.live hbS))
    refine kEqNil (fun x hx => ?_) (fun bb hbb => kSplit_c (fun hbt => ?_) (fun hbf => ?_))
    · obtain ⟨cs, hc⟩ := hss _ _ hx
      obtain ⟨a, k, rfl, _⟩ := hc.ho.sl
      exact ⟨a, _, k, rfl⟩
    · refine kIA0 ?_
      rw [kPtr_p]
      refine kLd_of hb5 rfl (ldH hb5h (kIA0 ?_))
      rw [kPtr_p]
      refine kLd_of hb5 rfl ?_
      have hv5 : Sl encE 5 g5 v xs := (hv.mono s1).mono (sS.trans (hs.trans (hs4.trans s5)))
      refine Told_spec hv5 hlen (fun v29 cs g6 n6 s6 hS6 f6 => ⟨by rw [kPtr_p, s6.live hb5, hb5], ?_⟩)
      have hmap6 := s6.live hmap5
      refine kMapSet_m (ev := id) (x := v29) hmap6 ?_
      rw [kBin_add, ej]
      have hlm : n + 1 ∉ ssF v29 cs := fun hm => by rw [f6 _ hm] at hmap5; cases hmap5
      have e67 : upd (upd g6 (n + 1) (some (.map (MpE id .i64 (mput ms b.1 v29))))) (n + 1) none = upd g6 (n + 1) none := upd_upd _ _ _ _
      have hS6H : SS encW 1 (upd g6 (n + 1) none) v29 cs (toldH h b.1 xs) := hS6.keep fun l b h1 h2 => by rw [upd_ne _ _ (fun e : l = n + 1 => hlm (e ▸ h2))]; exact h1
      have sH6 : Sub (upd g4 (n + 1) none) (upd g6 (n + 1) none) := s5H.trans (s6.upd _ _)
      refine next _ _ _ (mput ms b.1 v29) t11 t12 rfl t5 t2 t1 (by rw [e67]; exact sH6) (upd_same _ _ _) (fun c x hx => ?_) (fun c x hx => ?_) ?_
      · rw [e67]
        rw [mget_mput] at hx
        by_cases hc : c = b.1
        · rw [if_pos hc] at hx; cases hx; subst hc; exact ⟨cs, hS6H⟩
        · rw [if_neg hc] at hx
          obtain ⟨cs2, hc2⟩ := hss _ _ hx
          exact ⟨cs2, hc2.mono sH6⟩
      · rw [mget_mput]
        by_cases hc : c = b.1
        · rw [if_pos hc]; exact ⟨_, rfl⟩
        · rw [if_neg hc]; exact ⟨x, hx⟩
      · rw [mget_mput, if_pos rfl]; exact ⟨_, rfl⟩
    · rw [kBin_add, ej]
      refine next _ g5 _ ms t11 t12 rfl t5 t2 t1 s5H hmap5 (fun c x hx => ?_) (fun c x hx => ⟨x, hx⟩) (hbb hbf)
      obtain ⟨cs2, hc2⟩ := hss _ _ hx
      exact ⟨cs2, hc2.mono s5H⟩
  · have hje : bs.take j = bs := List.take_of_length_le (by omega)
    rw [hje] at hall
    have ssg : Sub g g4 := (s1.trans sS).trans (hs.trans hs4)
    refine aRet_of (Sub.refl _) (hK _ ms _ _ ssg hmap fun b hb => ?_)
    obtain ⟨x, hx⟩ := hall b hb
    obtain ⟨cs, hc⟩ := hss _ _ hx
    exact ⟨x, cs, hx, hc.mono hs4⟩
end Go.Proofs.Ytldlimkjhppjbaa.Gen

namespace Go.Proofs.Ytldlimkjhppjbaa.Abs
open Go Go.RowKit
variable {g : G} {n : Nat}
/-- a slice with room of one's own, or none -/
def OwnL (g0 g : G) (v : Value) (z m : Nat) (cs : List Value) : Prop :=
  (m = 0 ∧ cs = [] ∧ v = .slice none 0 0) ∨
  ∃ l cs', v = .slice (some ⟨l, 0, none⟩) m (LC + z) ∧ g l = some (.cells cs' (.loose z)) ∧ g0 l = none ∧ m * z ≤ cs'.length ∧ cs'.take (m * z) = cs
theorem OwnL.rd {g0 : G} {v : Value} {z m : Nat} {cs : List Value} (h : OwnL g0 g v z m cs) : Rd g v z m cs := by
  rcases h with ⟨rfl, rfl, rfl⟩ | ⟨l, cs', rfl, hg, _, h1, h2⟩
  · exact Rd.nil z
  · refine ⟨_, _, rfl, by rw [← h2, List.length_take]; omega, .inr ⟨l, 0, rfl⟩, fun _ => ⟨l, 0, cs', _, rfl, hg, by omega, by simpa using h2⟩⟩
theorem append_L {g0 : G} {v x : Value} {z m k bytes : Nat} {cs new : List Value} {K : Cont} (hs : Sub g0 g) (ho : OwnL g0 g v z m cs) (hx : Rd g x z k new) (hnew : ∀ v ∈ new, isCell v = true)
    (hb : bytes ≤ 1048576) (h1 : (m + k) * bytes ≤ 1099511627776) (h2 : m + k < 1099511627776)
    (hK : ∀ v' g' n', Sub g0 g' → OwnL g0 g' v' z (m + k) (cs ++ new) → K v' g' n') : kAppend v x z bytes g n K := by
  obtain ⟨ax, cx, rfl, hlx, hax, hgx⟩ := id hx
  have hel : ∀ {K' : List Value → Prop}, K' new → kElems g (.slice ax k cx) k z K' := fun kk => hx.elems kk
  rcases ho with ⟨rfl, rfl, rfl⟩ | ⟨l, cs', rfl, hg, h0, q1, q2⟩
  · refine ⟨hb, h1, h2, hel ⟨hnew, ?_⟩⟩
    rw [if_pos (by decide : (0 : Nat) < LC)]
    by_cases hk : 0 + k ≤ 0
    · rw [if_pos hk]
      obtain rfl : k = 0 := by omega
      have hn : new = [] := List.eq_nil_of_length_eq_zero (by omega)
      subst hn
      exact ⟨rfl, hK _ _ _ hs (.inl ⟨rfl, rfl, rfl⟩)⟩
    · rw [if_neg hk]
      refine ⟨by simp, fun hn => hK _ _ _ (hs.new hn _) (.inr ⟨n, new, rfl, upd_same _ _ _, hs.none hn, by rw [Nat.zero_add]; omega, ?_⟩)⟩
      rw [List.nil_append, List.take_of_length_le (by rw [Nat.zero_add]; omega)]
  · refine ⟨hb, h1, h2, hel ⟨hnew, ?_⟩⟩
    rw [if_neg (by omega : ¬ LC + z < LC)]
    refine ⟨rfl, kCells_of hg ⟨rfl, by omega, fun hn => ?_⟩⟩
    have e : ((cs'.drop 0).take (m * z)) = cs := by rw [List.drop_zero]; exact q2
    rw [e]
    have hcl : cs.length = m * z := by rw [← q2, List.length_take]; omega
    refine hK _ _ _ ((hs.upd_fresh _ h0).upd_fresh _ (hs.none hn)) (.inr ⟨n, cs ++ new, rfl, upd_same _ _ _, hs.none hn, by rw [List.length_append, hcl, hlx, Nat.add_mul]; exact Nat.le_refl _, ?_⟩)
    rw [List.take_of_length_le (by rw [List.length_append, hcl, hlx, Nat.add_mul]; exact Nat.le_refl _)]
end Go.Proofs.Ytldlimkjhppjbaa.Abs
namespace Go.Proofs.Ytldlimkjhppjbaa.Gen
open Go Go.Proofs.Ytldlimkjhppjbaa.Abs Go.RowKit
variable {g : G} {n : Nat}
theorem EqualW_spec {v w : Value} {xs ys : List Int} (hv : Sl encW 1 g v xs) (hw : Sl encW 1 g w ys) (hlen : xs.length < 1000000) {K : Cont}
    (hK : ∀ n', K (.bool (decide (xs = ys))) g n') : AC slices_Equal_uint64_uint64_id [v, w] g n K := by
  refine ACalls.fold X0_mono ?_
  rw [← slices_Equal_uint64_uint64_eq]
  simp only [slices_Equal_uint64_uint64]
  refine hv.len (hw.len ?_)
  rw [kBin_neq]
  refine kSplit_d (fun h => aRet_of (Sub.refl _) ?_) (fun h => ?_)
  · have : xs ≠ ys := fun e => h (by rw [e])
    simpa [this] using hK n
  have hl : xs.length = ys.length := by omega
  refine hv.len ?_
  refine lfp_ind (fun m t g' n' => g' = g ∧ ∃ i : Nat, m = xs.length - i ∧ i ≤ xs.length ∧ t 0 = v ∧ t 1 = w ∧ t 12 = .int .i64 (xs.length : Nat) ∧ t 13 = .int .i64 i ∧ xs.take i = ys.take i) ?_
    (m := xs.length) ⟨rfl, 0, by simp, by simp, rfl, rfl, rfl, rfl, rfl⟩
  rintro I m t g1 n1 hI ⟨rfl, i, hm, hi, h0, h1, h12, h13, hp⟩
  simp only [slices_Equal_uint64_uint64_l1, h0, h1, h12, h13]
  rw [kBin_lss]
  refine kSplit_d (fun hlt => ?_) (fun hge => ?_)
  · have hlt : i < xs.length := by omega
    refine hv.idx encW_len (List.getElem?_eq_getElem hlt) (fun l o ha => ?_)
    simp only [kPtr_p]
    refine ha.ld (i := 0) rfl ?_
    refine hw.idx encW_len (List.getElem?_eq_getElem (hl ▸ hlt)) (fun l o ha => ?_)
    simp only [kPtr_p]
    refine ha.ld (i := 0) rfl ?_
    rw [kBin_neq]
    refine kSplit_d (fun h => aRet_of (Sub.refl _) ?_) (fun h => ?_)
    · have : xs ≠ ys := fun e => h (by subst e; rfl)
      simpa [this] using hK n1
    · rw [kBin_add, wrapNat (by omega)]
      refine hI (xs.length - (i + 1)) _ _ _ (by omega) ⟨rfl, i + 1, rfl, by omega, h0, h1, h12, rfl, ?_⟩
      rw [List.take_add_one, List.take_add_one, List.getElem?_eq_getElem hlt, List.getElem?_eq_getElem (hl ▸ hlt), hp]
      have : xs[i] = ys[i] := Classical.byContradiction h
      simp [this]
  · have : i = xs.length := by omega
    subst this
    rw [List.take_length, hl, List.take_length] at hp
    exact aRet_of (Sub.refl _) (by simpa [hp] using hK n1)
theorem BeginsW_spec {v w : Value} {xs ys : List Int} (hv : Sl encW 1 g v xs) (hc : Cap v 1) (hw : Sl encW 1 g w ys) (hlen : xs.length < 1000000) {K : Cont}
    (hK : ∀ n', K (.bool (decide (ys.length ≤ xs.length ∧ xs.take ys.length = ys))) g n') : AC bellowskeep_Begins_id [v, w] g n K := by
  refine ACalls.fold X0_mono ?_
  rw [← bellowskeep_Begins_eq]
  simp only [bellowskeep_Begins]
  refine hw.len (hv.len ?_)
  rw [kBin_leq]
  refine kSplit_d (fun h => hw.len ?_) (fun h => aRet_of (Sub.refl _) ?_)
  · have hle : ys.length ≤ xs.length := by omega
    refine hv.to encW_len hc hle (fun v' h' _ => Words_spec h' hw (by rw [List.length_take]; omega) fun n' => aRet_of (Sub.refl _) ?_)
    have e : decide (ys.length ≤ xs.length ∧ xs.take ys.length = ys) = decide (xs.take ys.length = ys) := by rw [Bool.eq_iff_iff]; simp [hle]
    rw [← e]; exact hK n'
  · have := hK n
    rw [decide_eq_false (by rintro ⟨h1, _⟩; exact h (by omega))] at this; exact this
theorem kSlice_nil0 {z : Nat} {K : Value → Prop} (k : K (.slice none 0 0)) : kSlice (.slice none 0 0) none (some (.int .i64 0)) none z K := by
  refine ⟨by decide, by decide, ?_⟩
  simp only [kBound]
  simpa using k
theorem kCap_nil {K : Value → Prop} (k : K (.int .i64 0)) : kCap (.slice none 0 0) K := by
  simp only [kCap]
  rw [if_pos (by decide)]; exact k
theorem Grow_spec {a : Nat} (ha : a < 1000000) {K : Cont} (hK : ∀ v' g' n', Sub g g' → OwnL g g' v' 2 0 [] → K v' g' n') : AC slices_Grow_api_Tx_api_Tx_id [.slice none 0 0, .int .i64 (a : Nat)] g n K := by
  refine ACalls.fold X0_mono ?_
  rw [← slices_Grow_api_Tx_api_Tx_eq]
  simp only [slices_Grow_api_Tx_api_Tx, kBin_lss]
  refine kSplit_f (by simp) ?_
  have j1 : ∀ t : Env, t 0 = .slice none 0 0 → t 1 = .int .i64 (a : Nat) → slices_Grow_api_Tx_api_Tx_j1 AC K t g n := by
    intro t q0 q1
    simp only [slices_Grow_api_Tx_api_Tx_j1, q0, q1]
    refine kCap_nil ?_
    rw [kLen_s, kBin_sub, show IntKind.i64.wrap ((0 : Int) - ((0 : Nat) : Int)) = 0 from rfl, kBin_sub, wrap64_of (by omega) (by omega), kBin_gtr]
    refine kSplit_d (fun h0 => ?_) (fun h0 => ?_)
    · refine kCap_nil (kSlice_nil0 ?_)
      rw [show (a : Int) - 0 = (a : Int) by omega] at *
      refine ⟨by decide, by omega, by omega, by simp; omega, ?_⟩
      intro hn
      show kLen (.slice none 0 0) _
      rw [kLen_s]
      refine kSlice_to (f := 0) (.inr rfl) (by omega) (aRet_of (Sub.refl _) (hK _ _ _ ((Sub.refl g).new hn _) (.inr ⟨n, _, rfl, upd_same _ _ _, hn, by omega, by simp⟩)))
    · exact aRet_of (Sub.refl _) (hK _ _ _ (Sub.refl _) (.inl ⟨rfl, rfl, rfl⟩))
  exact j1 _ rfl rfl
end Go.Proofs.Ytldlimkjhppjbaa.Gen

namespace Go.Proofs.Ytldlimkjhppjbaa.Gen
open Go Go.Proofs.Ytldlimkjhppjbaa.Abs Go.RowKit
variable {g : G} {n : Nat}
set_option maxHeartbeats 1000000 in
theorem Concat_spec {v : Value} {txs : List (List TxT)} (hv : SlR TsC 1 g v txs) (hF : Fair27 txs) {K : Cont} (hK : ∀ v' g' n', Sub g g' → SlR TxC 2 g' v' txs.flatten → K v' g' n') : AC slices_Concat_api_Tx_api_Tx_id [v] g n K := by
  refine ACalls.fold X0_mono ?_
  rw [← slices_Concat_api_Tx_api_Tx_eq]
  simp only [slices_Concat_api_Tx_api_Tx]
  have h10 := hF.1
  refine hv.len ?_
  have hfl : ∀ j, j < txs.length → ∀ x, txs[j]? = some x → (txs.take (j + 1)).flatten.length = (txs.take j).flatten.length + x.length := fun j hj x hx => by
    rw [take_add hx]; simp
  refine lfp_ind (m := txs.length) (Inv := fun m t g2 n2 => ∃ j : Nat, m + j = txs.length ∧ g2 = g ∧ t 0 = v ∧ t 9 = v ∧ t 10 = .int .i64 (txs.length : Nat) ∧ t 11 = .int .i64 (j : Nat) ∧ t 3 = .int .i64 ((txs.take j).flatten.length : Nat) ∧ (txs.take j).flatten.length ≤ 12 * j) ?_ ⟨0, by omega, rfl, rfl, rfl, rfl, rfl, rfl, by simp⟩
  rintro I m t g2 n2 ih ⟨j, hm, rfl, t0, t9, t10, t11, t3, hbd⟩
  simp only [slices_Concat_api_Tx_api_Tx_l1, t9, t10, t11, t3, kBin_lss]
  refine kSplit_d (fun hj => ?_) (fun hj => ?_)
  · have hj : j < txs.length := by omega
    have hget : txs[j]? = some txs[j] := List.getElem?_eq_getElem hj
    generalize txs[j] = x at hget
    have hx25 := (hF.2 x (List.mem_of_getElem? hget)).1
    have hfj := hfl j hj x hget
    refine hv.idx hget (fun l o c ha hc hx => ?_)
    obtain ⟨vo, rfl, ho⟩ := hx
    simp only [kPtr_p]
    refine ha.ld (i := 0) rfl (ho.len ?_)
    simp only [kBin_add]
    rw [wrap64_of (by omega) (by omega), kBin_lss]
    refine kSplit_f (by simp; omega) ?_
    rw [wrap64_of (by omega) (by omega), show ((j : Nat) : Int) + 1 = ((j + 1 : Nat) : Int) by omega]
    refine ih (m - 1) _ _ _ (by omega) ⟨j + 1, by omega, rfl, t0, t9, t10, rfl, ?_, by omega⟩
    rw [hfj]
    show Value.int .i64 _ = _
    congr 1
  · have hje : txs.take j = txs := List.take_of_length_le (by omega)
    rw [hje] at t3 hbd
    have j2 : ∀ t' : Env, t' 0 = v → t' 3 = .int .i64 (txs.flatten.length : Nat) → slices_Concat_api_Tx_api_Tx_j2 AC K t' g2 n2 := by
      intro t' q0 q3
      simp only [slices_Concat_api_Tx_api_Tx_j2, q0, q3]
      refine Grow_spec (by omega) (fun v24 g3 n3 s3 hL => ?_)
      refine (hv.mono (fun c x h => TsC.mono s3 c x h) s3).len ?_
      refine lfp_ind (m := txs.length) (Inv := fun m t g4 n4 => ∃ (j : Nat) (w : Value) (els : List (List Value)), m + j = txs.length ∧ t 25 = v ∧ t 26 = .int .i64 (txs.length : Nat) ∧ t 27 = .int .i64 (j : Nat) ∧ t 6 = w ∧ Sub g2 g4 ∧ OwnL g2 g4 w 2 els.length els.flatten ∧ els.length = (txs.take j).flatten.length ∧ (∀ (i : Nat) c x, els[i]? = some c → (txs.take j).flatten[i]? = some x → c.length = 2 ∧ TxC g2 c x) ∧ (txs.take j).flatten.length ≤ 12 * j) ?_ ⟨0, v24, [], by omega, rfl, rfl, rfl, rfl, s3, hL, by simp, by simp, by simp⟩
      rintro I m t g4 n4 ih ⟨j, w, els, hm, t25, t26, t27, t6, s4, hO, hel, hrow, hbd⟩
      simp only [slices_Concat_api_Tx_api_Tx_l3, t25, t26, t27, t6, kBin_lss]
      refine kSplit_d (fun hj => ?_) (fun hj => ?_)
      · have hj : j < txs.length := by omega
        have hget : txs[j]? = some txs[j] := List.getElem?_eq_getElem hj
        generalize txs[j] = x at hget
        have hx25 := (hF.2 x (List.mem_of_getElem? hget)).1
        have hfj := hfl j hj x hget
        refine hv.idx hget (fun l o c ha hc hx => ?_)
        obtain ⟨vo, rfl, ho⟩ := hx
        obtain ⟨els', r1, r2, r3⟩ := ho
        simp only [kPtr_p]
        refine (ha.mono s4).ld (i := 0) rfl ?_
        have hcells : ∀ v ∈ els'.flatten, Abs.isCell v = true := fun v hv => by
          obtain ⟨c, hc, hvc⟩ := List.mem_flatten.1 hv
          obtain ⟨i, hi, rfl⟩ := List.mem_iff_getElem.1 hc
          obtain ⟨_, vv, e1, e2⟩ := r3 i _ _ (List.getElem?_eq_getElem hi) (List.getElem?_eq_getElem (by omega))
          rw [e1] at hvc
          simp at hvc
          rcases hvc with rfl | rfl
          · exact Sl.isCell e2
          · rfl
        refine append_L s4 hO (r1.mono s4) hcells (by decide) (by omega) (by omega) (fun w' g5 n5 s5 hO5 => ?_)
        rw [kBin_add, wrap64_of (by omega) (by omega), show ((j : Nat) : Int) + 1 = ((j + 1 : Nat) : Int) by omega]
        refine ih (m - 1) _ _ _ (by omega) ⟨j + 1, w', els ++ els', by omega, t25, t26, rfl, rfl, s5, by rw [List.length_append, List.flatten_append, r2]; exact hO5, by rw [List.length_append, hel, hfj, r2], fun i c y hc hy => ?_, by omega⟩
        rw [take_add hget, List.flatten_append, List.flatten_cons, List.flatten_nil, List.append_nil] at hy
        rcases Nat.lt_or_ge i els.length with hi | hi
        · rw [List.getElem?_append_left hi] at hc
          rw [List.getElem?_append_left (by omega)] at hy
          exact hrow i c y hc hy
        · rw [List.getElem?_append_right hi] at hc
          rw [List.getElem?_append_right (by omega)] at hy
          rw [← hel] at hy
          exact r3 _ c y hc hy
      · have hje : txs.take j = txs := List.take_of_length_le (by omega)
        rw [hje] at hrow hel
        refine aRet_of (Sub.refl _) (hK w g4 n4 s4 ⟨els, by rw [← hel]; exact hO.rd, hel, fun i c x hc hx => ⟨(hrow i c x hc hx).1, TxC.mono s4 c x (hrow i c x hc hx).2⟩⟩)
    exact j2 _ t0 t3
end Go.Proofs.Ytldlimkjhppjbaa.Gen
