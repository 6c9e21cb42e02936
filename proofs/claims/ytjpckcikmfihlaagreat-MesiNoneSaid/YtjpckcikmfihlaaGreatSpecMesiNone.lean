import Derived.Test.YtjpckcikmfihlaaGreatSpecMesiNoneB
/- What the functions come to. -/
set_option linter.all false
set_option linter.deprecated false
namespace Go.Proofs.YtjpckcikmfihlaaGreat.Gen
open Go Go.Proofs.YtjpckcikmfihlaaGreat.Abs Go.RowKit
set_option maxRecDepth 1000000 in
theorem wr2_ok : wr2.ok Tryz.prog (HT TT1) 1000 100 = true := by kernel_rfl
set_option maxRecDepth 1000000 in
theorem wr5_ok : wr5.ok Tryz.prog (HT TT1) 1000 100 = true := by kernel_rfl
set_option maxRecDepth 1000000 in
theorem wr8_ok : wr8.ok Tryz.prog (HT TT1) 1000 100 = true := by kernel_rfl
end Go.Proofs.YtjpckcikmfihlaaGreat.Gen

namespace Go.Proofs.YtjpckcikmfihlaaGreat.Gen
open Go Go.Proofs.YtjpckcikmfihlaaGreat.Abs Go.RowKit
def wrows : List Row := [wr0, wr1, wr2, wr3, wr4, wr5, wr6, wr7, wr8, wr9, wr10]
theorem wrows_ok : ∀ r ∈ wrows, r.ok Tryz.prog (HT TT1) 1000 100 = true := by
  intro r hr
  simp only [wrows, List.mem_cons, List.not_mem_nil, or_false] at hr
  rcases hr with rfl | rfl | rfl | rfl | rfl | rfl | rfl | rfl | rfl | rfl | rfl
  · exact wr0_ok
  · exact wr1_ok
  · exact wr2_ok
  · exact wr3_ok
  · exact wr4_ok
  · exact wr5_ok
  · exact wr6_ok
  · exact wr7_ok
  · exact wr8_ok
  · exact wr9_ok
  · exact wr10_ok
set_option maxRecDepth 1000000 in
theorem wtop_ev : ecallsH Tryz.prog (rowsH [13, 34, 35, 36, 16, 37] wrows (HT TT1)) 1000 100 12 [] .nil 0 (fun v' _ _ => sameW v' (.bool true)) = true := by kernel_rfl
set_option maxRecDepth 1000000 in
theorem wakes_sim {g : G} {n : Nat} {K : Cont} (hK : K (.bool true) g n) : CSim Tryz.prog 12 [] g n K :=
  closed_sound (fun B => drawSound (by kernel_rfl) B) (rowsH_ok (fun r hr => Row.sound (fun B => drawSound (by kernel_rfl) B) (HT_ok (XF_sound TT1_ok)) (wrows_ok r hr)) (HT_ok (XF_sound TT1_ok))) 1000 100 rfl rfl wtop_ev hK
end Go.Proofs.YtjpckcikmfihlaaGreat.Gen

namespace Go.Proofs.YtjpckcikmfihlaaGreat.Gen
open Go Go.Proofs.YtjpckcikmfihlaaGreat.Abs Go.RowKit
variable {g : G} {n : Nat}
def TT : XTab := fun f => if f = 12 then some (.tab (tab0 (.bool true))) else TT1 f
set_option maxRecDepth 1000000 in
theorem TT_ok : XTOk Tryz.prog TT := by
  intro f k h
  unfold TT at h
  split at h
  · rename_i hf; subst hf; cases h
    intro args v g n K hv hK
    obtain ⟨rfl, rfl⟩ := tab0_inv hv
    exact wakes_sim hK
  · exact TT1_ok f k h
abbrev AC : CT := ACalls Tryz.prog (XP Tryz.prog TT)
theorem X0_mono : XMono (XP Tryz.prog TT) := XP_mono _
/-- a call of plain values that an evaluation tells -/
theorem AC_ev {f : FuncId} {args : List Value} {K : Cont} (v : Value) (fuel depth : Nat) (h1 : plain 3 v = true) (h2 : args.all (plain 3) = true) (h3 : ecallsH Tryz.prog (HT TT) fuel depth f args .nil 0 (fun v' _ _ => sameW v' v) = true) (hK : ∀ n', K v g n') : AC f args g n K :=
  fun C hC => hC.2 _ _ _ _ _ (.inr ⟨v, fuel, depth, h1, h2, h3, hK⟩)
theorem AddInt64_tell {args : List Value} {K : Cont} (h : kAddX .i64 args g n K) : AC 152 args g n K := ACalls.foreign X0_mono (.inl h)
theorem Read_tell {args : List Value} {K : Cont} (h : kLook rRead args g n K) : AC 135 args g n K := ACalls.foreign X0_mono (.inl h)
theorem wakes_tell {K : Cont} (hK : K (.bool true) g n) : AC 12 [] g n K := ACalls.foreign X0_mono (.inl hK)

theorem kSplit_t {b : Bool} {A B : Prop} (h : b = true) (k : A) : kSplit (.bool b) A B := by subst h; exact k
theorem kSplit_f {b : Bool} {A B : Prop} (h : b = false) (k : B) : kSplit (.bool b) A B := by subst h; exact k
theorem take_add {α : Type} {xs : List α} {i : Nat} {x : α} (h : xs[i]? = some x) : xs.take (i + 1) = xs.take i ++ [x] := by rw [List.take_add_one, h]; rfl
theorem drop_get {α : Type} {xs : List α} {i : Nat} {x : α} (h : xs[i]? = some x) : xs.drop i = x :: xs.drop (i + 1) := by
  rw [List.drop_eq_getElem?_toList_append, h]; rfl
def idxV (o : Option Nat) : Value := match o with | some i => .int .i64 (i : Nat) | none => .int .i64 (-1)
theorem filter_take_none {α : Type} {p : α → Bool} {xs : List α} {i : Nat} (h : ∀ x ∈ xs.take i, p x = false) : (xs.take i).filter (fun x => !p x) = xs.take i := by
  rw [List.filter_eq_self]; intro x hx; simp [h x hx]
abbrev Ln := { w : List Int // w.length = 8 }
def encL (l : Ln) : List Value := l.1.map (.int .u64 ·)
theorem encL_len (l : Ln) : (encL l).length = 8 := by simp [encL, l.2]
theorem encL_cell (l : Ln) : ∀ v ∈ encL l, isCell v = true := by simp [encL, isCell]
def zeroL : Ln := ⟨[0, 0, 0, 0, 0, 0, 0, 0], rfl⟩
def Ln.put (l : Ln) (w : Nat) (v : Int) : Ln := ⟨l.1.set w v, by simp [l.2]⟩
theorem leaves_ints {k : IntKind} : ∀ (xs ys : List Int), xs.length = ys.length → leavesEq (List.replicate xs.length .i) (xs.map (.int k ·)) (ys.map (.int k ·)) = some (decide (xs = ys))
  | [], [], _ => rfl
  | [], _ :: _, h => by simp at h
  | _ :: _, [], h => by simp at h
  | x :: xs, y :: ys, h => by
    have ih := leaves_ints (k := k) xs ys (by simpa using h)
    simp only [List.length_cons, List.replicate_succ, List.map_cons, leavesEq, leafEq, if_true, ih, Option.some.injEq]
    rw [Bool.eq_iff_iff]; simp
theorem eqL (a b : Ln) (K : Value → Prop) (h : K (.bool (decide (a = b)))) : kBin (.agg [.i, .i, .i, .i, .i, .i, .i, .i]) .eql (.agg (encL a).toArray) (.agg (encL b).toArray) K := by
  have e := leaves_ints (k := .u64) a.1 b.1 (by rw [a.2, b.2])
  rw [a.2] at e
  have e' : leavesEq [.i, .i, .i, .i, .i, .i, .i, .i] (encL a) (encL b) = some (decide (a = b)) := by
    have : (decide (a = b)) = decide (a.1 = b.1) := by rw [Bool.eq_iff_iff]; simp [Subtype.ext_iff]
    rw [this]; exact e
  show (match leavesEq [.i, .i, .i, .i, .i, .i, .i, .i] (encL a) (encL b) with | some r => kCmp .eql r K | none => False)
  rw [e']
  exact h
theorem splice_all {cs vs : List Value} (h : vs.length = cs.length) : splice cs 0 vs = vs := by simp [splice, h]
theorem findIdx_some {α : Type} {p : α → Bool} {xs : List α} {i : Nat} {x : α} (he : xs[i]? = some x) (hp : p x = true) (hb : ∀ y ∈ xs.take i, p y = false) : xs.findIdx? p = some i := by
  have hlt := lt_of_get he
  rw [List.findIdx?_eq_some_iff_getElem]
  refine ⟨hlt, ?_, fun j hj => ?_⟩
  · rw [List.getElem?_eq_getElem hlt] at he; cases he; exact hp
  · have := hb xs[j] (List.mem_of_getElem? (i := j) (by rw [List.getElem?_take, if_pos hj, List.getElem?_eq_getElem]))
    simp [this]
def encB (i : Int) : List Value := [.int .u8 i]
theorem encB_len (i : Int) : (encB i).length = 1 := rfl
theorem encB_cell (i : Int) : ∀ v ∈ encB i, isCell v = true := by simp [encB, isCell]
theorem ldL {l : Nat} {x : Ln} {bk : BK} {K : List Value → Prop} (h : g l = some (.cells (encL x) bk)) (k : K (encL x)) : kLdN g l 0 8 K := by
  refine kLdN_of h (by rw [encL_len]; decide) ?_
  rw [List.drop_zero, List.take_of_length_le (by rw [encL_len]; exact Nat.le_refl _)]; exact k
theorem putL {l : Nat} {x : Ln} {w : Int} {v : Int} {K : Value → Nat → Nat → G → Prop} (hw : 0 ≤ w ∧ w < 8) (h : g l = some (.cells (encL x) .exact))
    (k : ∀ p l' o, upd g l (some (.cells (encL (x.put w.toNat v)) .exact)) l = some (.cells (encL (x.put w.toNat v)) .exact) → K p l' o (upd g l (some (.cells (encL (x.put w.toNat v)) .exact)))) :
    kIndexArr (ptr l 0) (.int .i64 w) 8 1 fun p => kPtr p fun l' o => kSt g l' o (.int .u64 v) (K p l' o) := by
  refine ⟨hw.1, hw.2, ?_⟩
  simp only [kPtr_p]
  refine kSt_of h rfl (by rw [encL_len]; omega) rfl ?_
  have e : (encL x).set (0 + w.toNat * 1) (.int .u64 v) = encL (x.put w.toNat v) := by simp [encL, Ln.put, List.map_set]
  rw [e]
  exact k _ _ _ (upd_same _ _ _)
end Go.Proofs.YtjpckcikmfihlaaGreat.Gen

namespace Go.Proofs.YtjpckcikmfihlaaGreat.Gen
open Go Go.Proofs.YtjpckcikmfihlaaGreat.Abs Go.RowKit
variable {g : G} {n : Nat}
theorem Load_nil_ev (c l w : Int) : ecallsH Tryz.prog (HT TT) 1000 100 mesi_System_Load_id [.pointer none, .int .i64 c, .int .i64 l, .int .i64 w] .nil 0 (fun v' _ _ => sameW v' (.tuple #[.int .u64 0, .bool false])) = true := by kernel_rfl
theorem Load_nil (c l w : Int) {K : Cont} (hK : ∀ n', K (.tuple #[.int .u64 0, .bool false]) g n') : AC mesi_System_Load_id [.pointer none, .int .i64 c, .int .i64 l, .int .i64 w] g n K := AC_ev (.tuple #[.int .u64 0, .bool false]) 1000 100 (by kernel_rfl) (by kernel_rfl) (Load_nil_ev c l w) hK
theorem Store_nil_ev (c l w v : Int) : ecallsH Tryz.prog (HT TT) 1000 100 mesi_System_Store_id [.pointer none, .int .i64 c, .int .i64 l, .int .i64 w, .int .u64 v] .nil 0 (fun v' _ _ => sameW v' (.bool false)) = true := by kernel_rfl
theorem Store_nil (c l w v : Int) {K : Cont} (hK : ∀ n', K (.bool false) g n') : AC mesi_System_Store_id [.pointer none, .int .i64 c, .int .i64 l, .int .i64 w, .int .u64 v] g n K := AC_ev (.bool false) 1000 100 (by kernel_rfl) (by kernel_rfl) (Store_nil_ev c l w v) hK
theorem Reach_nil_ev (c l : Int) : ecallsH Tryz.prog (HT TT) 1000 100 mesi_System_Reach_id [.pointer none, .int .i64 c, .int .i64 l] .nil 0 (fun v' _ _ => sameW v' (.bool false)) = true := by kernel_rfl
theorem Reach_nil (c l : Int) {K : Cont} (hK : ∀ n', K (.bool false) g n') : AC mesi_System_Reach_id [.pointer none, .int .i64 c, .int .i64 l] g n K := AC_ev (.bool false) 1000 100 (by kernel_rfl) (by kernel_rfl) (Reach_nil_ev c l) hK
theorem Flush_nil_ev (c l k : Int) : ecallsH Tryz.prog (HT TT) 1000 100 mesi_System_Flush_id [.pointer none, .int .i64 c, .int .i64 l, .int .i64 k] .nil 0 (fun v' _ _ => sameW v' (.int .i64 1)) = true := by kernel_rfl
theorem Flush_nil (c l k : Int) {K : Cont} (hK : ∀ n', K (.int .i64 1) g n') : AC mesi_System_Flush_id [.pointer none, .int .i64 c, .int .i64 l, .int .i64 k] g n K := AC_ev (.int .i64 1) 1000 100 (by kernel_rfl) (by kernel_rfl) (Flush_nil_ev c l k) hK
theorem Up_nil_ev (c : Int) : ecallsH Tryz.prog (HT TT) 1000 100 mesi_System_Up_id [.pointer none, .int .i64 c] .nil 0 (fun v' _ _ => sameW v' (.int .i64 1)) = true := by kernel_rfl
theorem Up_nil (c : Int) {K : Cont} (hK : ∀ n', K (.int .i64 1) g n') : AC mesi_System_Up_id [.pointer none, .int .i64 c] g n K := AC_ev (.int .i64 1) 1000 100 (by kernel_rfl) (by kernel_rfl) (Up_nil_ev c) hK
theorem Answer_nil_ev (c : Int) : ecallsH Tryz.prog (HT TT) 1000 100 mesi_System_Answer_id [.pointer none, .int .i64 c] .nil 0 (fun v' _ _ => sameW v' (.int .i64 1)) = true := by kernel_rfl
theorem Answer_nil (c : Int) {K : Cont} (hK : ∀ n', K (.int .i64 1) g n') : AC mesi_System_Answer_id [.pointer none, .int .i64 c] g n K := AC_ev (.int .i64 1) 1000 100 (by kernel_rfl) (by kernel_rfl) (Answer_nil_ev c) hK
theorem Hear_nil_ev (c : Int) : ecallsH Tryz.prog (HT TT) 1000 100 mesi_System_Hear_id [.pointer none, .int .i64 c] .nil 0 (fun v' _ _ => sameW v' (.tuple #[.agg #[.int .i64 0, .int .i64 0, .bool false, .bool false, .int .u64 0, .int .u64 0, .int .u64 0, .int .u64 0, .int .u64 0, .int .u64 0, .int .u64 0, .int .u64 0], .int .i64 1])) = true := by kernel_rfl
theorem Hear_nil (c : Int) {K : Cont} (hK : ∀ n', K (.tuple #[.agg #[.int .i64 0, .int .i64 0, .bool false, .bool false, .int .u64 0, .int .u64 0, .int .u64 0, .int .u64 0, .int .u64 0, .int .u64 0, .int .u64 0, .int .u64 0], .int .i64 1]) g n') : AC mesi_System_Hear_id [.pointer none, .int .i64 c] g n K := AC_ev (.tuple #[.agg #[.int .i64 0, .int .i64 0, .bool false, .bool false, .int .u64 0, .int .u64 0, .int .u64 0, .int .u64 0, .int .u64 0, .int .u64 0, .int .u64 0, .int .u64 0], .int .i64 1]) 1000 100 (by kernel_rfl) (by kernel_rfl) (Hear_nil_ev c) hK
theorem Push_nil_ev (l : Int) : ecallsH Tryz.prog (HT TT) 1000 100 mesi_System_Push_id [.pointer none, .int .i64 l] .nil 0 (fun v' _ _ => sameW v' (.int .i64 1)) = true := by kernel_rfl
theorem Push_nil (l : Int) {K : Cont} (hK : ∀ n', K (.int .i64 1) g n') : AC mesi_System_Push_id [.pointer none, .int .i64 l] g n K := AC_ev (.int .i64 1) 1000 100 (by kernel_rfl) (by kernel_rfl) (Push_nil_ev l) hK
theorem Evict_nil_ev (c l : Int) : ecallsH Tryz.prog (HT TT) 1000 100 mesi_System_Evict_id [.pointer none, .int .i64 c, .int .i64 l] .nil 0 (fun v' _ _ => sameW v' (.int .i64 1)) = true := by kernel_rfl
theorem Evict_nil (c l : Int) {K : Cont} (hK : ∀ n', K (.int .i64 1) g n') : AC mesi_System_Evict_id [.pointer none, .int .i64 c, .int .i64 l] g n K := AC_ev (.int .i64 1) 1000 100 (by kernel_rfl) (by kernel_rfl) (Evict_nil_ev c l) hK
theorem Drop_nil_ev (l : Int) : ecallsH Tryz.prog (HT TT) 1000 100 mesi_System_Drop_id [.pointer none, .int .i64 l] .nil 0 (fun v' _ _ => sameW v' (.int .i64 1)) = true := by kernel_rfl
theorem Drop_nil (l : Int) {K : Cont} (hK : ∀ n', K (.int .i64 1) g n') : AC mesi_System_Drop_id [.pointer none, .int .i64 l] g n K := AC_ev (.int .i64 1) 1000 100 (by kernel_rfl) (by kernel_rfl) (Drop_nil_ev l) hK
theorem Drain_nil_ev (l : Int) : ecallsH Tryz.prog (HT TT) 1000 100 mesi_System_Drain_id [.pointer none, .int .i64 l] .nil 0 (fun v' _ _ => sameW v' (.int .i64 1)) = true := by kernel_rfl
theorem Drain_nil (l : Int) {K : Cont} (hK : ∀ n', K (.int .i64 1) g n') : AC mesi_System_Drain_id [.pointer none, .int .i64 l] g n K := AC_ev (.int .i64 1) 1000 100 (by kernel_rfl) (by kernel_rfl) (Drain_nil_ev l) hK
theorem Fail_nil_ev : ecallsH Tryz.prog (HT TT) 1000 100 mesi_System_Fail_id [.pointer none] .nil 0 (fun v' _ _ => sameW v' (.tuple #[])) = true := by kernel_rfl
theorem Fail_nil {K : Cont} (hK : ∀ n', K (.tuple #[]) g n') : AC mesi_System_Fail_id [.pointer none] g n K := AC_ev (.tuple #[]) 1000 100 (by kernel_rfl) (by kernel_rfl) (Fail_nil_ev ) hK
theorem Queues_nil_ev (c : Int) : ecallsH Tryz.prog (HT TT) 1000 100 mesi_System_Queues_id [.pointer none, .int .i64 c] .nil 0 (fun v' _ _ => sameW v' (.tuple #[.slice none 0 0, .slice none 0 0, .slice none 0 0])) = true := by kernel_rfl
theorem Queues_nil (c : Int) {K : Cont} (hK : ∀ n', K (.tuple #[.slice none 0 0, .slice none 0 0, .slice none 0 0]) g n') : AC mesi_System_Queues_id [.pointer none, .int .i64 c] g n K := AC_ev (.tuple #[.slice none 0 0, .slice none 0 0, .slice none 0 0]) 1000 100 (by kernel_rfl) (by kernel_rfl) (Queues_nil_ev c) hK
theorem Entry_nil_ev (l : Int) : ecallsH Tryz.prog (HT TT) 1000 100 mesi_System_Entry_id [.pointer none, .int .i64 l] .nil 0 (fun v' _ _ => sameW v' (.agg #[.bool false, .bool false, .int .u64 0, .int .u64 0, .int .u64 0, .int .u64 0, .int .u64 0, .int .u64 0, .int .u64 0, .int .u64 0, .int .i64 (-1), .int .u8 0, .int .i64 0, .int .i64 0, .int .u8 0])) = true := by kernel_rfl
theorem Entry_nil (l : Int) {K : Cont} (hK : ∀ n', K (.agg #[.bool false, .bool false, .int .u64 0, .int .u64 0, .int .u64 0, .int .u64 0, .int .u64 0, .int .u64 0, .int .u64 0, .int .u64 0, .int .i64 (-1), .int .u8 0, .int .i64 0, .int .i64 0, .int .u8 0]) g n') : AC mesi_System_Entry_id [.pointer none, .int .i64 l] g n K := AC_ev (.agg #[.bool false, .bool false, .int .u64 0, .int .u64 0, .int .u64 0, .int .u64 0, .int .u64 0, .int .u64 0, .int .u64 0, .int .u64 0, .int .i64 (-1), .int .u8 0, .int .i64 0, .int .i64 0, .int .u8 0]) 1000 100 (by kernel_rfl) (by kernel_rfl) (Entry_nil_ev l) hK
theorem Slots_nil_ev (c : Int) : ecallsH Tryz.prog (HT TT) 1000 100 mesi_System_Slots_id [.pointer none, .int .i64 c] .nil 0 (fun v' _ _ => sameW v' (.slice none 0 0)) = true := by kernel_rfl
theorem Slots_nil (c : Int) {K : Cont} (hK : ∀ n', K (.slice none 0 0) g n') : AC mesi_System_Slots_id [.pointer none, .int .i64 c] g n K := AC_ev (.slice none 0 0) 1000 100 (by kernel_rfl) (by kernel_rfl) (Slots_nil_ev c) hK
theorem Waiting_nil_ev : ecallsH Tryz.prog (HT TT) 1000 100 mesi_System_Waiting_id [.pointer none] .nil 0 (fun v' _ _ => sameW v' (.slice none 0 0)) = true := by kernel_rfl
theorem Waiting_nil {K : Cont} (hK : ∀ n', K (.slice none 0 0) g n') : AC mesi_System_Waiting_id [.pointer none] g n K := AC_ev (.slice none 0 0) 1000 100 (by kernel_rfl) (by kernel_rfl) (Waiting_nil_ev ) hK
theorem Memory_nil_ev : ecallsH Tryz.prog (HT TT) 1000 100 mesi_System_Memory_id [.pointer none] .nil 0 (fun v' _ _ => sameW v' (.slice none 0 0)) = true := by kernel_rfl
theorem Memory_nil {K : Cont} (hK : ∀ n', K (.slice none 0 0) g n') : AC mesi_System_Memory_id [.pointer none] g n K := AC_ev (.slice none 0 0) 1000 100 (by kernel_rfl) (by kernel_rfl) (Memory_nil_ev ) hK
theorem Config_nil_ev : ecallsH Tryz.prog (HT TT) 1000 100 mesi_System_Config_id [.pointer none] .nil 0 (fun v' _ _ => sameW v' (.agg #[.int .i64 0, .int .i64 0, .int .i64 0, .int .i64 0, .int .i64 0, .int .i64 0, .int .i64 0])) = true := by kernel_rfl
theorem Config_nil {K : Cont} (hK : ∀ n', K (.agg #[.int .i64 0, .int .i64 0, .int .i64 0, .int .i64 0, .int .i64 0, .int .i64 0, .int .i64 0]) g n') : AC mesi_System_Config_id [.pointer none] g n K := AC_ev (.agg #[.int .i64 0, .int .i64 0, .int .i64 0, .int .i64 0, .int .i64 0, .int .i64 0, .int .i64 0]) 1000 100 (by kernel_rfl) (by kernel_rfl) (Config_nil_ev ) hK
/-- a step: kind, core, line, word, value -/
structure Sp5 where
  k : Int
  c : Int
  l : Int
  w : Int
  v : Int
def encSp5 (x : Sp5) : List Value := [.int .i64 x.k, .int .i64 x.c, .int .i64 x.l, .int .i64 x.w, .int .u64 x.v]
def zM : List Value := [.int .i64 0, .int .i64 0, .bool false, .bool false, .int .u64 0, .int .u64 0, .int .u64 0, .int .u64 0, .int .u64 0, .int .u64 0, .int .u64 0, .int .u64 0]
theorem kEx {vs : Array Value} {i : Nat} {v : Value} {K : Value → Prop} (h : vs.toList[i]? = some v) (k : K v) : kExtract (.tuple vs) i K := kGet_of h k
theorem kPart0 {vs : Array Value} {v : Value} {K : Value → Prop} (h : vs.toList[0]? = some v) (k : K v) : kAgg (.agg vs) (fun c => kPart c 0 none K) := kGet_of h k
theorem tailZ {g gg : G} {l m : Nat} {K : Cont} {v1 v2 e : Value} (hz : gg l = some (.cells zM .exact)) (hs : Sub g gg) (hl : g l = none) (hK : ∀ g', Sub g g' → K (.tuple #[v1, v2, .agg zM.toArray, e]) g' m) :
    zM.length = 12 ∧ kStN gg l 0 zM fun g4 => kLdN g4 l 0 12 fun r2 => aRet K (.tuple #[v1, v2, .agg r2.toArray, e]) g4 m := by
  refine ⟨rfl, kStN_of hz rfl (by decide) (by decide) ?_⟩
  refine kLdN_of (upd_same _ _ _) (by decide) ?_
  exact aRet_of (Sub.refl _) (hK _ (hs.upd_fresh _ hl))
def errOf (k : Int) : Int := if 3 ≤ k ∧ k ≤ 10 then 1 else 0
set_option maxRecDepth 100000 in
theorem do_nil (x : Sp5) {K : Cont} (hK : ∀ n' g', Sub g g' → K (.tuple #[.int .u64 0, .bool false, .agg zM.toArray, .int .i64 (errOf x.k)]) g' n') : AC bellowslaw09_do_id [.pointer none, .agg (encSp5 x).toArray] g n K := by
  refine ACalls.fold X0_mono ?_
  rw [← bellowslaw09_do_eq]
  simp only [bellowslaw09_do, kAgg_a, kFill_nil]
  intro hn hn1
  have hne : g (n + 1) = none := by rw [upd_ne _ _ (by omega)] at hn1; exact hn1
  obtain ⟨gg, hgg⟩ : ∃ gg, upd (upd g n (some (.cells (encSp5 x) .exact))) (n + 1) (some (.cells [.int .i64 0, .int .i64 0, .bool false, .bool false, .int .u64 0, .int .u64 0, .int .u64 0, .int .u64 0, .int .u64 0, .int .u64 0, .int .u64 0, .int .u64 0] .exact)) = gg := ⟨_, rfl⟩
  have hx : gg n = some (.cells (encSp5 x) .exact) := by rw [← hgg, upd_ne _ _ (by omega), upd_same]
  have hz : gg (n + 1) = some (.cells zM .exact) := by rw [← hgg, upd_same]; rfl
  have hs : Sub g gg := by rw [← hgg]; exact (Sub.upd_fresh _ (Sub.refl g) hn).upd_fresh _ hne
  rw [hgg]
  refine kLd_of hx rfl ?_
  rw [kBin_eql]
  by_cases h0 : x.k = 0
  · have he : errOf x.k = 0 := by unfold errOf; rw [if_neg (by omega)]
    rw [he] at hK
    refine kSplit_t (decide_eq_true h0) ?_
    refine kLd_of hx rfl ?_
    refine kLd_of hx rfl ?_
    refine kLd_of hx rfl ?_
    refine Load_nil _ _ _ (fun n1 => ?_)
    refine kEx rfl (kEx rfl ?_)
    exact tailZ hz hs hne (fun g' h' => hK _ _ h')
  refine kSplit_f (decide_eq_false h0) ?_
  rw [kBin_eql]
  by_cases h1 : x.k = 1
  · have he : errOf x.k = 0 := by unfold errOf; rw [if_neg (by omega)]
    rw [he] at hK
    refine kSplit_t (decide_eq_true h1) ?_
    refine kLd_of hx rfl ?_
    refine kLd_of hx rfl ?_
    refine kLd_of hx rfl ?_
    refine kLd_of hx rfl ?_
    refine Store_nil _ _ _ _ (fun n1 => ?_)
    exact tailZ hz hs hne (fun g' h' => hK _ _ h')
  refine kSplit_f (decide_eq_false h1) ?_
  rw [kBin_eql]
  by_cases h2 : x.k = 2
  · have he : errOf x.k = 0 := by unfold errOf; rw [if_neg (by omega)]
    rw [he] at hK
    refine kSplit_t (decide_eq_true h2) ?_
    refine kLd_of hx rfl ?_
    refine kLd_of hx rfl ?_
    refine Reach_nil _ _ (fun n1 => ?_)
    exact tailZ hz hs hne (fun g' h' => hK _ _ h')
  refine kSplit_f (decide_eq_false h2) ?_
  rw [kBin_eql]
  by_cases h3 : x.k = 3
  · have he : errOf x.k = 1 := by unfold errOf; rw [if_pos (by omega)]
    rw [he] at hK
    refine kSplit_t (decide_eq_true h3) ?_
    refine kLd_of hx rfl ?_
    refine kLd_of hx rfl ?_
    refine kLd_of hx rfl ?_
    rw [kBin_rem]
    refine ⟨by decide, ?_⟩
    rw [kConv_i, kBin_add]
    refine Flush_nil _ _ _ (fun n1 => ?_)
    exact tailZ hz hs hne (fun g' h' => hK _ _ h')
  refine kSplit_f (decide_eq_false h3) ?_
  rw [kBin_eql]
  by_cases h4 : x.k = 4
  · have he : errOf x.k = 1 := by unfold errOf; rw [if_pos (by omega)]
    rw [he] at hK
    refine kSplit_t (decide_eq_true h4) ?_
    refine kLd_of hx rfl ?_
    refine Up_nil _ (fun n1 => ?_)
    exact tailZ hz hs hne (fun g' h' => hK _ _ h')
  refine kSplit_f (decide_eq_false h4) ?_
  rw [kBin_eql]
  by_cases h5 : x.k = 5
  · have he : errOf x.k = 1 := by unfold errOf; rw [if_pos (by omega)]
    rw [he] at hK
    refine kSplit_t (decide_eq_true h5) ?_
    refine kLd_of hx rfl ?_
    refine Answer_nil _ (fun n1 => ?_)
    exact tailZ hz hs hne (fun g' h' => hK _ _ h')
  refine kSplit_f (decide_eq_false h5) ?_
  rw [kBin_eql]
  by_cases h6 : x.k = 6
  · have he : errOf x.k = 1 := by unfold errOf; rw [if_pos (by omega)]
    rw [he] at hK
    refine kSplit_t (decide_eq_true h6) ?_
    refine kLd_of hx rfl ?_
    refine Hear_nil _ (fun n1 => ?_)
    refine kEx rfl (kEx rfl ?_)
    intro hm
    refine ⟨rfl, kStN_of (upd_same _ _ _) rfl (by decide) (by decide) ?_⟩
    refine kLdN_of (upd_same _ _ _) (by decide) ?_
    have hne1 : n + 1 ≠ n1 := fun e => by rw [← e, hz] at hm; cases hm
    exact tailZ (by rw [upd_ne _ _ hne1, upd_ne _ _ hne1]; exact hz) ((hs.upd_fresh _ (hs.none hm)).upd_fresh _ (hs.none hm)) hne (fun g' h' => hK _ _ h')
  refine kSplit_f (decide_eq_false h6) ?_
  rw [kBin_eql]
  by_cases h7 : x.k = 7
  · have he : errOf x.k = 1 := by unfold errOf; rw [if_pos (by omega)]
    rw [he] at hK
    refine kSplit_t (decide_eq_true h7) ?_
    refine kLd_of hx rfl ?_
    refine Push_nil _ (fun n1 => ?_)
    exact tailZ hz hs hne (fun g' h' => hK _ _ h')
  refine kSplit_f (decide_eq_false h7) ?_
  rw [kBin_eql]
  by_cases h8 : x.k = 8
  · have he : errOf x.k = 1 := by unfold errOf; rw [if_pos (by omega)]
    rw [he] at hK
    refine kSplit_t (decide_eq_true h8) ?_
    refine kLd_of hx rfl ?_
    refine kLd_of hx rfl ?_
    refine Evict_nil _ _ (fun n1 => ?_)
    exact tailZ hz hs hne (fun g' h' => hK _ _ h')
  refine kSplit_f (decide_eq_false h8) ?_
  rw [kBin_eql]
  by_cases h9 : x.k = 9
  · have he : errOf x.k = 1 := by unfold errOf; rw [if_pos (by omega)]
    rw [he] at hK
    refine kSplit_t (decide_eq_true h9) ?_
    refine kLd_of hx rfl ?_
    refine Drop_nil _ (fun n1 => ?_)
    exact tailZ hz hs hne (fun g' h' => hK _ _ h')
  refine kSplit_f (decide_eq_false h9) ?_
  rw [kBin_eql]
  by_cases h10 : x.k = 10
  · have he : errOf x.k = 1 := by unfold errOf; rw [if_pos (by omega)]
    rw [he] at hK
    refine kSplit_t (decide_eq_true h10) ?_
    refine kLd_of hx rfl ?_
    refine Drain_nil _ (fun n1 => ?_)
    exact tailZ hz hs hne (fun g' h' => hK _ _ h')
  refine kSplit_f (decide_eq_false h10) ?_
  have he : errOf x.k = 0 := by unfold errOf; rw [if_neg (by omega)]
  rw [he] at hK
  rw [kBin_eql]
  by_cases h11 : x.k = 11
  · refine kSplit_t (decide_eq_true h11) ?_
    refine Fail_nil (fun n1 => ?_)
    simp only [bellowslaw09_do_j1, kFill_nil]
    exact tailZ hz hs hne (fun g' h' => hK _ _ h')
  refine kSplit_f (decide_eq_false h11) ?_
  simp only [bellowslaw09_do_j1, kFill_nil]
  exact tailZ hz hs hne (fun g' h' => hK _ _ h')
theorem New_nil_ev : ecallsH Tryz.prog (HT TT) 1000 100 mesi_New_id [.agg #[.int .i64 0, .int .i64 0, .int .i64 0, .int .i64 0, .int .i64 0, .int .i64 0, .int .i64 0], .slice none 0 0] .nil 0 (fun v' _ _ => sameW v' (.tuple #[.pointer none, .int .i64 1])) = true := by kernel_rfl
theorem New_nil {K : Cont} (hK : ∀ n', K (.tuple #[.pointer none, .int .i64 1]) g n') : AC mesi_New_id [.agg #[.int .i64 0, .int .i64 0, .int .i64 0, .int .i64 0, .int .i64 0, .int .i64 0, .int .i64 0], .slice none 0 0] g n K := AC_ev (.tuple #[.pointer none, .int .i64 1]) 1000 100 (by kernel_rfl) (by kernel_rfl) New_nil_ev hK
def zE : List Value := [.bool false, .bool false, .int .u64 0, .int .u64 0, .int .u64 0, .int .u64 0, .int .u64 0, .int .u64 0, .int .u64 0, .int .u64 0, .int .i64 (-1), .int .u8 0, .int .i64 0, .int .i64 0, .int .u8 0]
set_option maxRecDepth 100000 in
theorem MesiNone_spec (x : Sp5) {K : Cont} (hK : ∀ n' g', K (.bool true) g' n') : AC bellowslaw09_MesiNone_id [.agg (encSp5 x).toArray] g n K := by
  refine ACalls.fold X0_mono ?_
  rw [← bellowslaw09_MesiNone_eq]
  simp only [bellowslaw09_MesiNone, kAgg_a, kFill_nil]
  intro hn
  refine Fail_nil (fun n2 => ?_)
  refine kLdN_of (upd_same _ _ _) (by show 5 ≤ 5; decide) ?_
  refine do_nil x (fun n3 g3 hs3 => ?_)
  have hx3 : g3 n = some (.cells (encSp5 x) .exact) := hs3.live (upd_same _ _ _)
  refine kEx rfl (kEx rfl (kEx rfl (kEx rfl ?_)))
  intro hn3
  have hne3 : n ≠ n3 := fun e => by rw [← e, hx3] at hn3; cases hn3
  refine ⟨rfl, kStN_of (upd_same _ _ _) rfl (by decide) (by decide) ?_⟩
  obtain ⟨g5, hg5⟩ : ∃ g5, upd (upd g3 n3 (some (.cells [.int .i64 0, .int .i64 0, .bool false, .bool false, .int .u64 0, .int .u64 0, .int .u64 0, .int .u64 0, .int .u64 0, .int .u64 0, .int .u64 0, .int .u64 0] .exact))) n3 (some (.cells (splice [.int .i64 0, .int .i64 0, .bool false, .bool false, .int .u64 0, .int .u64 0, .int .u64 0, .int .u64 0, .int .u64 0, .int .u64 0, .int .u64 0, .int .u64 0] 0 zM) .exact)) = g5 := ⟨_, rfl⟩
  have hx5 : g5 n = some (.cells (encSp5 x) .exact) := by rw [← hg5, upd_ne _ _ hne3, upd_ne _ _ hne3]; exact hx3
  have hM5 : g5 n3 = some (.cells zM .exact) := by rw [← hg5, upd_same]; rfl
  rw [hg5]
  refine kLd_of hx5 rfl ?_
  refine Queues_nil _ (fun n4 => ?_)
  refine kEx rfl (kEx rfl (kEx rfl ?_))
  refine New_nil (fun n5 => ?_)
  refine kEx rfl (kEx rfl ?_)
  refine kLd_of hx5 rfl ?_
  refine Entry_nil _ (fun n6 => ?_)
  intro hn6
  have hne6 : n ≠ n6 := fun e => by rw [← e, hx5] at hn6; cases hn6
  have hne7 : n3 ≠ n6 := fun e => by rw [← e, hM5] at hn6; cases hn6
  refine ⟨rfl, kStN_of (upd_same _ _ _) rfl (by decide) (by decide) ?_⟩
  have hX0 := upd_live (g := g5) hx5 hn6
  obtain ⟨gz, hgz⟩ : ∃ gz, upd (upd g5 n6 (some (.cells ([.bool false, .bool false, .int .u64 0, .int .u64 0, .int .u64 0, .int .u64 0, .int .u64 0, .int .u64 0, .int .u64 0, .int .u64 0, .int .i64 0, .int .u8 0, .int .i64 0, .int .i64 0, .int .u8 0]) .exact))) n6 (some (.cells (splice ([.bool false, .bool false, .int .u64 0, .int .u64 0, .int .u64 0, .int .u64 0, .int .u64 0, .int .u64 0, .int .u64 0, .int .u64 0, .int .i64 0, .int .u8 0, .int .i64 0, .int .i64 0, .int .u8 0]) 0 #[.bool false, .bool false, .int .u64 0, .int .u64 0, .int .u64 0, .int .u64 0, .int .u64 0, .int .u64 0, .int .u64 0, .int .u64 0, .int .i64 (-1), .int .u8 0, .int .i64 0, .int .i64 0, .int .u8 0].toList) .exact)) = gz := ⟨_, rfl⟩
  have hX : gz n = some (.cells (encSp5 x) .exact) := by rw [← hgz, upd_ne _ _ hne6, upd_ne _ _ hne6]; exact hx5
  have hMz : gz n3 = some (.cells zM .exact) := by rw [← hgz, upd_ne _ _ hne7, upd_ne _ _ hne7]; exact hM5
  have hE : gz n6 = some (.cells zE .exact) := by rw [← hgz, upd_same]; rfl
  rw [hgz]
  rw [kBin_eql]
  refine kSplit_t rfl ?_
  rw [kUn_not]
  refine kSplit_t rfl ?_
  refine kLdN_of hMz (by decide) ?_
  have heq : ∀ {J : Value → Prop}, J (.bool true) → kBin (.agg [.i, .i, .b, .b, .i, .i, .i, .i, .i, .i, .i, .i]) .eql (.agg ((zM.drop 0).take 12).toArray) (.agg zM.toArray) J := fun h => h
  refine heq ?_
  refine kSplit_t rfl ?_
  refine kLd_of hX rfl ?_
  rw [kBin_lss]
  by_cases h3 : x.k < 3
  · refine kSplit_t (decide_eq_true h3) ?_
    simp only [kLen_s, kBin_add]
    rw [kBin_eql]
    refine kSplit_t rfl ?_
    rw [kBin_eql]
    refine kSplit_t rfl ?_
    refine kLd_of hE rfl ?_
    rw [kBin_eql]
    refine kSplit_t rfl ?_
    refine kLd_of hE rfl ?_
    rw [kUn_not]
    refine kSplit_t rfl ?_
    refine kLd_of hX rfl ?_
    refine Slots_nil _ (fun n6 => ?_)
    simp only [kLen_s]
    rw [kBin_eql]
    refine kSplit_t rfl ?_
    refine Waiting_nil (fun n7 => ?_)
    simp only [kLen_s]
    rw [kBin_eql]
    refine kSplit_t rfl ?_
    refine Memory_nil (fun n8 => ?_)
    simp only [kLen_s]
    rw [kBin_eql]
    refine kSplit_t rfl ?_
    refine Config_nil (fun n9 => ?_)
    refine kPart0 (v := .int .i64 0) rfl ?_
    rw [kBin_eql]
    refine kSplit_t rfl ?_
    refine wakes_tell ?_
    exact aRet_of (Sub.refl _) (hK _ _)

  refine kSplit_f (decide_eq_false h3) ?_
  refine kLd_of hX rfl ?_
  rw [kBin_gtr]
  by_cases h10 : 10 < x.k
  · refine kSplit_t (decide_eq_true h10) ?_
    simp only [kLen_s, kBin_add]
    rw [kBin_eql]
    refine kSplit_t rfl ?_
    rw [kBin_eql]
    refine kSplit_t rfl ?_
    refine kLd_of hE rfl ?_
    rw [kBin_eql]
    refine kSplit_t rfl ?_
    refine kLd_of hE rfl ?_
    rw [kUn_not]
    refine kSplit_t rfl ?_
    refine kLd_of hX rfl ?_
    refine Slots_nil _ (fun n6 => ?_)
    simp only [kLen_s]
    rw [kBin_eql]
    refine kSplit_t rfl ?_
    refine Waiting_nil (fun n7 => ?_)
    simp only [kLen_s]
    rw [kBin_eql]
    refine kSplit_t rfl ?_
    refine Memory_nil (fun n8 => ?_)
    simp only [kLen_s]
    rw [kBin_eql]
    refine kSplit_t rfl ?_
    refine Config_nil (fun n9 => ?_)
    refine kPart0 (v := .int .i64 0) rfl ?_
    rw [kBin_eql]
    refine kSplit_t rfl ?_
    refine wakes_tell ?_
    exact aRet_of (Sub.refl _) (hK _ _)

  refine kSplit_f (decide_eq_false h10) ?_
  have he : errOf x.k = 1 := by unfold errOf; rw [if_pos (by omega)]
  rw [he, kBin_eql]
  · refine kSplit_t rfl ?_
    simp only [kLen_s, kBin_add]
    rw [kBin_eql]
    refine kSplit_t rfl ?_
    rw [kBin_eql]
    refine kSplit_t rfl ?_
    refine kLd_of hE rfl ?_
    rw [kBin_eql]
    refine kSplit_t rfl ?_
    refine kLd_of hE rfl ?_
    rw [kUn_not]
    refine kSplit_t rfl ?_
    refine kLd_of hX rfl ?_
    refine Slots_nil _ (fun n6 => ?_)
    simp only [kLen_s]
    rw [kBin_eql]
    refine kSplit_t rfl ?_
    refine Waiting_nil (fun n7 => ?_)
    simp only [kLen_s]
    rw [kBin_eql]
    refine kSplit_t rfl ?_
    refine Memory_nil (fun n8 => ?_)
    simp only [kLen_s]
    rw [kBin_eql]
    refine kSplit_t rfl ?_
    refine Config_nil (fun n9 => ?_)
    refine kPart0 (v := .int .i64 0) rfl ?_
    rw [kBin_eql]
    refine kSplit_t rfl ?_
    refine wakes_tell ?_
    exact aRet_of (Sub.refl _) (hK _ _)

end Go.Proofs.YtjpckcikmfihlaaGreat.Gen

namespace Go.Proofs.YtjpckcikmfihlaaGreat.Gen
open Go Go.Proofs.YtjpckcikmfihlaaGreat.Abs Go.RowKit
variable {g : G} {n : Nat}
theorem MesiNone_row {args : List Value} (hr : RepAs g [(true, [.i .i64, .i .i64, .i .i64, .i .i64, .i .u64])] args) {K : Cont} (hK : ∀ g' n', K (.bool true) g' n') : AC bellowslaw09_MesiNone_id args g n K := by
  cases hr with
  | cons h1 hr =>
    cases hr
    obtain ⟨cs, e, h1⟩ := h1
    obtain ⟨a1, r1, e1, _, h⟩ := rep_i h1
    obtain ⟨a2, r2, e2, _, h⟩ := rep_i h
    obtain ⟨a3, r3, e3, _, h⟩ := rep_i h
    obtain ⟨a4, r4, e4, _, h⟩ := rep_i h
    obtain ⟨a5, r5, e5, _, h⟩ := rep_i h
    have e6 := rep_nil h
    subst e6 e5 e4 e3 e2 e1 e
    exact MesiNone_spec ⟨a1, a2, a3, a4, a5⟩ (fun n' g' => hK g' n')
end Go.Proofs.YtjpckcikmfihlaaGreat.Gen
