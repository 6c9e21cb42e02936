import Derived.Test.YtjpckcikmfihlaaGreatSpecMesiMemoryB
/- What the functions come to. -/
set_option linter.all false
set_option linter.deprecated false
namespace Go.Proofs.YtjpckcikmfihlaaGreat.Gen
open Go Go.Proofs.YtjpckcikmfihlaaGreat.Abs Go.RowKit
set_option maxRecDepth 1000000 in
theorem wr2_ok : wr2.ok Tryz.prog (HT TT1) 1000 100 = true := by kernel_rfl
set_option maxRecDepth 1000000 in
theorem wr5_ok : wr5.ok Tryz.prog (HT TT1) 1000 100 = true := by kernel_rfl
set_option maxRecDepth 1000000 in
theorem wr8_ok : wr8.ok Tryz.prog (HT TT1) 1000 100 = true := by kernel_rfl
end Go.Proofs.YtjpckcikmfihlaaGreat.Gen

namespace Go.Proofs.YtjpckcikmfihlaaGreat.Gen
open Go Go.Proofs.YtjpckcikmfihlaaGreat.Abs Go.RowKit
def wrows : List Row := [wr0, wr1, wr2, wr3, wr4, wr5, wr6, wr7, wr8, wr9, wr10]
theorem wrows_ok : ∀ r ∈ wrows, r.ok Tryz.prog (HT TT1) 1000 100 = true := by
  intro r hr
  simp only [wrows, List.mem_cons, List.not_mem_nil, or_false] at hr
  rcases hr with rfl | rfl | rfl | rfl | rfl | rfl | rfl | rfl | rfl | rfl | rfl
  · exact wr0_ok
  · exact wr1_ok
  · exact wr2_ok
  · exact wr3_ok
  · exact wr4_ok
  · exact wr5_ok
  · exact wr6_ok
  · exact wr7_ok
  · exact wr8_ok
  · exact wr9_ok
  · exact wr10_ok
set_option maxRecDepth 1000000 in
theorem wtop_ev : ecallsH Tryz.prog (rowsH [13, 34, 35, 36, 16, 37] wrows (HT TT1)) 1000 100 12 [] .nil 0 (fun v' _ _ => sameW v' (.bool true)) = true := by kernel_rfl
set_option maxRecDepth 1000000 in
theorem wakes_sim {g : G} {n : Nat} {K : Cont} (hK : K (.bool true) g n) : CSim Tryz.prog 12 [] g n K :=
  closed_sound (fun B => drawSound (by kernel_rfl) B) (rowsH_ok (fun r hr => Row.sound (fun B => drawSound (by kernel_rfl) B) (HT_ok (XF_sound TT1_ok)) (wrows_ok r hr)) (HT_ok (XF_sound TT1_ok))) 1000 100 rfl rfl wtop_ev hK
end Go.Proofs.YtjpckcikmfihlaaGreat.Gen

namespace Go.Proofs.YtjpckcikmfihlaaGreat.Gen
open Go Go.Proofs.YtjpckcikmfihlaaGreat.Abs Go.RowKit
variable {g : G} {n : Nat}
def TT : XTab := fun f => if f = 12 then some (.tab (tab0 (.bool true))) else TT1 f
set_option maxRecDepth 1000000 in
theorem TT_ok : XTOk Tryz.prog TT := by
  intro f k h
  unfold TT at h
  split at h
  · rename_i hf; subst hf; cases h
    intro args v g n K hv hK
    obtain ⟨rfl, rfl⟩ := tab0_inv hv
    exact wakes_sim hK
  · exact TT1_ok f k h
abbrev AC : CT := ACalls Tryz.prog (XP Tryz.prog TT)
theorem X0_mono : XMono (XP Tryz.prog TT) := XP_mono _
/-- a call of plain values that an evaluation tells -/
theorem AC_ev {f : FuncId} {args : List Value} {K : Cont} (v : Value) (fuel depth : Nat) (h1 : plain 3 v = true) (h2 : args.all (plain 3) = true) (h3 : ecallsH Tryz.prog (HT TT) fuel depth f args .nil 0 (fun v' _ _ => sameW v' v) = true) (hK : ∀ n', K v g n') : AC f args g n K :=
  fun C hC => hC.2 _ _ _ _ _ (.inr ⟨v, fuel, depth, h1, h2, h3, hK⟩)
theorem AddInt64_tell {args : List Value} {K : Cont} (h : kAddX .i64 args g n K) : AC 152 args g n K := ACalls.foreign X0_mono (.inl h)
theorem Read_tell {args : List Value} {K : Cont} (h : kLook rRead args g n K) : AC 135 args g n K := ACalls.foreign X0_mono (.inl h)
theorem wakes_tell {K : Cont} (hK : K (.bool true) g n) : AC 12 [] g n K := ACalls.foreign X0_mono (.inl hK)

theorem kSplit_t {b : Bool} {A B : Prop} (h : b = true) (k : A) : kSplit (.bool b) A B := by subst h; exact k
theorem kSplit_f {b : Bool} {A B : Prop} (h : b = false) (k : B) : kSplit (.bool b) A B := by subst h; exact k
theorem take_add {α : Type} {xs : List α} {i : Nat} {x : α} (h : xs[i]? = some x) : xs.take (i + 1) = xs.take i ++ [x] := by rw [List.take_add_one, h]; rfl
theorem drop_get {α : Type} {xs : List α} {i : Nat} {x : α} (h : xs[i]? = some x) : xs.drop i = x :: xs.drop (i + 1) := by
  rw [List.drop_eq_getElem?_toList_append, h]; rfl
def idxV (o : Option Nat) : Value := match o with | some i => .int .i64 (i : Nat) | none => .int .i64 (-1)
theorem filter_take_none {α : Type} {p : α → Bool} {xs : List α} {i : Nat} (h : ∀ x ∈ xs.take i, p x = false) : (xs.take i).filter (fun x => !p x) = xs.take i := by
  rw [List.filter_eq_self]; intro x hx; simp [h x hx]
abbrev Ln := { w : List Int // w.length = 8 }
def encL (l : Ln) : List Value := l.1.map (.int .u64 ·)
theorem encL_len (l : Ln) : (encL l).length = 8 := by simp [encL, l.2]
theorem encL_cell (l : Ln) : ∀ v ∈ encL l, isCell v = true := by simp [encL, isCell]
def zeroL : Ln := ⟨[0, 0, 0, 0, 0, 0, 0, 0], rfl⟩
def Ln.put (l : Ln) (w : Nat) (v : Int) : Ln := ⟨l.1.set w v, by simp [l.2]⟩
theorem leaves_ints {k : IntKind} : ∀ (xs ys : List Int), xs.length = ys.length → leavesEq (List.replicate xs.length .i) (xs.map (.int k ·)) (ys.map (.int k ·)) = some (decide (xs = ys))
  | [], [], _ => rfl
  | [], _ :: _, h => by simp at h
  | _ :: _, [], h => by simp at h
  | x :: xs, y :: ys, h => by
    have ih := leaves_ints (k := k) xs ys (by simpa using h)
    simp only [List.length_cons, List.replicate_succ, List.map_cons, leavesEq, leafEq, if_true, ih, Option.some.injEq]
    rw [Bool.eq_iff_iff]; simp
theorem eqL (a b : Ln) (K : Value → Prop) (h : K (.bool (decide (a = b)))) : kBin (.agg [.i, .i, .i, .i, .i, .i, .i, .i]) .eql (.agg (encL a).toArray) (.agg (encL b).toArray) K := by
  have e := leaves_ints (k := .u64) a.1 b.1 (by rw [a.2, b.2])
  rw [a.2] at e
  have e' : leavesEq [.i, .i, .i, .i, .i, .i, .i, .i] (encL a) (encL b) = some (decide (a = b)) := by
    have : (decide (a = b)) = decide (a.1 = b.1) := by rw [Bool.eq_iff_iff]; simp [Subtype.ext_iff]
    rw [this]; exact e
  show (match leavesEq [.i, .i, .i, .i, .i, .i, .i, .i] (encL a) (encL b) with | some r => kCmp .eql r K | none => False)
  rw [e']
  exact h
theorem splice_all {cs vs : List Value} (h : vs.length = cs.length) : splice cs 0 vs = vs := by simp [splice, h]
theorem findIdx_some {α : Type} {p : α → Bool} {xs : List α} {i : Nat} {x : α} (he : xs[i]? = some x) (hp : p x = true) (hb : ∀ y ∈ xs.take i, p y = false) : xs.findIdx? p = some i := by
  have hlt := lt_of_get he
  rw [List.findIdx?_eq_some_iff_getElem]
  refine ⟨hlt, ?_, fun j hj => ?_⟩
  · rw [List.getElem?_eq_getElem hlt] at he; cases he; exact hp
  · have := hb xs[j] (List.mem_of_getElem? (i := j) (by rw [List.getElem?_take, if_pos hj, List.getElem?_eq_getElem]))
    simp [this]
def encB (i : Int) : List Value := [.int .u8 i]
theorem encB_len (i : Int) : (encB i).length = 1 := rfl
theorem encB_cell (i : Int) : ∀ v ∈ encB i, isCell v = true := by simp [encB, isCell]
theorem ldL {l : Nat} {x : Ln} {bk : BK} {K : List Value → Prop} (h : g l = some (.cells (encL x) bk)) (k : K (encL x)) : kLdN g l 0 8 K := by
  refine kLdN_of h (by rw [encL_len]; decide) ?_
  rw [List.drop_zero, List.take_of_length_le (by rw [encL_len]; exact Nat.le_refl _)]; exact k
theorem putL {l : Nat} {x : Ln} {w : Int} {v : Int} {K : Value → Nat → Nat → G → Prop} (hw : 0 ≤ w ∧ w < 8) (h : g l = some (.cells (encL x) .exact))
    (k : ∀ p l' o, upd g l (some (.cells (encL (x.put w.toNat v)) .exact)) l = some (.cells (encL (x.put w.toNat v)) .exact) → K p l' o (upd g l (some (.cells (encL (x.put w.toNat v)) .exact)))) :
    kIndexArr (ptr l 0) (.int .i64 w) 8 1 fun p => kPtr p fun l' o => kSt g l' o (.int .u64 v) (K p l' o) := by
  refine ⟨hw.1, hw.2, ?_⟩
  simp only [kPtr_p]
  refine kSt_of h rfl (by rw [encL_len]; omega) rfl ?_
  have e : (encL x).set (0 + w.toNat * 1) (.int .u64 v) = encL (x.put w.toNat v) := by simp [encL, Ln.put, List.map_set]
  rw [e]
  exact k _ _ _ (upd_same _ _ _)
end Go.Proofs.YtjpckcikmfihlaaGreat.Gen

namespace Go.Proofs.YtjpckcikmfihlaaGreat.Gen
open Go Go.Proofs.YtjpckcikmfihlaaGreat.Abs Go.RowKit
variable {g : G} {n : Nat}

/-- a slot of an array -/
structure St where
  state : Int
  line : Int
  data : Ln
  used : Int
  deriving DecidableEq
def encS (s : St) : List Value := [.int .i64 s.state, .int .i64 s.line] ++ encL s.data ++ [.int .i64 s.used]
theorem encS_len (s : St) : (encS s).length = 11 := by simp [encS, encL_len]
theorem encS_cell (s : St) : ∀ v ∈ encS s, isCell v = true := by
  intro v hv
  simp only [encS, List.mem_append, List.mem_cons, List.not_mem_nil, or_false] at hv
  rcases hv with ((rfl | rfl) | h) | rfl
  · rfl
  · rfl
  · exact encL_cell _ v h
  · rfl
theorem ldS {l : Nat} {x : St} {bk : BK} {K : List Value → Prop} (h : g l = some (.cells (encS x) bk)) (k : K (encS x)) : kLdN g l 0 11 K := by
  refine kLdN_of h (by rw [encS_len]; decide) ?_
  rw [List.drop_zero, List.take_of_length_le (by rw [encS_len]; exact Nat.le_refl _)]; exact k
def zeroS : St := ⟨0, 0, zeroL, 0⟩
theorem encS_0 (s : St) : (encS s)[0]? = some (.int .i64 s.state) := rfl
theorem encS_1 (s : St) : (encS s)[1]? = some (.int .i64 s.line) := rfl
theorem encS_10 (s : St) : (encS s)[10]? = some (.int .i64 s.used) := by
  unfold encS
  rw [List.getElem?_append_right (by simp [encL_len])]
  simp [encL_len]

/-- the array's heap: the object at la, the slots at ls -/
structure Arr where
  sets : Nat
  ways : Nat
  l : List St
  used : Int
  deriving DecidableEq
def Arr.ok (A : Arr) : Prop := (A.sets = 1 ∨ A.sets = 2 ∨ A.sets = 4 ∨ A.sets = 8) ∧ 1 ≤ A.ways ∧ A.ways ≤ 8 ∧ A.l.length = A.sets * A.ways ∧ 0 ≤ A.used ∧ A.used < 1000000
def ArrC (A : Arr) (ls : Nat) : List Value := [.int .i64 A.sets, .int .i64 A.ways, .slice (some ⟨ls, 0, none⟩) (A.sets * A.ways) (A.sets * A.ways), .int .i64 A.used]
structure ArrH (g : G) (la ls : Nat) (A : Arr) : Prop where
  obj : g la = some (.cells (ArrC A ls) .exact)
  row : Blk1 encS g ls A.l .exact
  ne : la ≠ ls
theorem ArrH.mono {g g' : G} {la ls : Nat} {A : Arr} (h : ArrH g la ls A) (hs : Sub g g') : ArrH g' la ls A := ⟨hs.live h.obj, h.row.mono hs, h.ne⟩
theorem geomSet_spec {sets line : Int} (hs : sets = 1 ∨ sets = 2 ∨ sets = 4 ∨ sets = 8) (hl : 0 ≤ line) {K : Cont} (hK : ∀ n', K (.int .i64 (line % sets)) g n') : AC geom_Set_id [.int .i64 sets, .int .i64 line] g n K := by
  refine ACalls.fold X0_mono ?_
  rw [← geom_Set_eq]
  simp only [geom_Set, kBin_lss, kBin_eql]
  refine kSplit_f (by simpa using hl) ?_
  have j1 : ∀ (t : Env) (n : Nat), t 8 = .bool true → t 0 = .int .i64 sets → t 1 = .int .i64 line → geom_Set_j1 AC K t g n := by
    intro t n t8 t0 t1
    simp only [geom_Set_j1, t8, t0, t1, kBin_rem]
    refine ⟨by omega, aRet_of (Sub.refl _) ?_⟩
    rw [Int.tmod_eq_emod_of_nonneg hl]
    exact hK _
  rcases hs with rfl | rfl | rfl | rfl
  · exact kSplit_t rfl (j1 _ _ rfl rfl rfl)
  · exact kSplit_f rfl (kSplit_t rfl (j1 _ _ rfl rfl rfl))
  · exact kSplit_f rfl (kSplit_f rfl (kSplit_t rfl (j1 _ _ rfl rfl rfl)))
  · exact kSplit_f rfl (kSplit_f rfl (kSplit_f rfl (j1 _ _ rfl rfl rfl)))

/-- a part of an exact slice, closed behind -/
theorem kSlice_part {l c z i j : Nat} {K : Value → Prop} (hc : c < LC) (hij : i < j) (hj : j ≤ c) (k : K (.slice (some ⟨l, i * z, none⟩) (j - i) (j - i))) :
    kSlice (.slice (some ⟨l, 0, none⟩) c c) (some (.int .i64 (i : Nat))) (some (.int .i64 (j : Nat))) (some (.int .i64 (j : Nat))) z K := by
  simp only [kSlice, if_pos hc, kBound, kInt_i]
  refine ⟨by omega, by omega, by omega, by omega, by omega, by omega, ?_⟩
  simp only [Int.toNat_natCast]
  rw [if_neg (by omega)]
  simp only [Option.map_some, addr_mk, Nat.zero_add]
  exact k

def Arr.from (A : Arr) (line : Int) : Nat := (line % A.sets).toNat * A.ways
theorem Arr.from_le {A : Arr} (h : A.ok) {line : Int} (hl : 0 ≤ line) : A.from line + A.ways ≤ A.sets * A.ways := by
  obtain ⟨hs, hw, _⟩ := h
  have h1 : (line % A.sets).toNat + 1 ≤ A.sets := by
    have : line % (A.sets : Int) < A.sets := Int.emod_lt_of_pos _ (by omega)
    have : 0 ≤ line % (A.sets : Int) := Int.emod_nonneg _ (by omega)
    omega
  have := Nat.mul_le_mul_right A.ways h1
  rw [Nat.add_mul, Nat.one_mul] at this
  exact this
theorem Arr.small {A : Arr} (h : A.ok) : A.sets * A.ways ≤ 64 := by
  obtain ⟨hs, hw1, hw2, _⟩ := h
  have := Nat.mul_le_mul (show A.sets ≤ 8 by omega) hw2
  omega
def setV (ls : Nat) (A : Arr) (line : Int) : Value := .slice (some ⟨ls, A.from line * 11, none⟩) A.ways A.ways
theorem set_spec {A : Arr} {la ls : Nat} {line : Int} (hok : A.ok) (hh : ArrH g la ls A) (hl : 0 ≤ line) {K : Cont} (hK : ∀ n', K (setV ls A line) g n') : AC array_Array_set_id [ptr la 0, .int .i64 line] g n K := by
  refine ACalls.fold X0_mono ?_
  rw [← array_Array_set_eq]
  simp only [array_Array_set, kNil_p, kPtr_p, Nat.zero_add]
  have hf := Arr.from_le hok hl
  have hsm := Arr.small hok
  refine kLd_of hh.obj rfl ?_
  refine kLd_of hh.obj rfl ?_
  refine geomSet_spec (by have := hok.1; omega) hl (fun n1 => ?_)
  refine ⟨rfl, ?_⟩
  have hnn : 0 ≤ line % (A.sets : Int) := Int.emod_nonneg _ (by have := hok.1; omega)
  have e1 : (line % (A.sets : Int)) * (A.ways : Int) = (A.from line : Int) := by unfold Arr.from; rw [Int.natCast_mul, Int.toNat_of_nonneg hnn]
  have hw2 := hok.2.2.1
  simp only [kBin_mul]
  rw [e1, wrap64_of (by omega) (by omega)]
  refine kLd_of hh.obj rfl ?_
  refine kLd_of hh.obj rfl ?_
  simp only [kBin_add]
  rw [wrap64_of (by omega) (by omega)]
  refine kLd_of hh.obj rfl ?_
  simp only [kBin_add]
  rw [wrap64_of (by omega) (by omega), show (A.from line : Int) + (A.ways : Int) = ((A.from line + A.ways : Nat) : Int) by omega]
  have hw1 := hok.2.1
  refine kSlice_part (by have : LC = 4611686018427387904 := rfl; omega) (by omega) hf (aRet_of (Sub.refl _) ?_)
  rw [show A.from line + A.ways - A.from line = A.ways by omega]
  exact hK _
end Go.Proofs.YtjpckcikmfihlaaGreat.Gen

namespace Go.Proofs.YtjpckcikmfihlaaGreat.Gen
open Go Go.Proofs.YtjpckcikmfihlaaGreat.Abs Go.RowKit
variable {g : G} {n : Nat}

theorem IndexFunc_Slot_spec {v such : Value} (p : St → Bool) {xs : List St} (hv : Sl encS 11 g v xs)
    (hsuch : ∀ (g' : G) (n' : Nat) (e : St) (K : Cont), Sub g g' → (∀ n, K (.bool (p e)) g' n) → kCall AC such [.agg (encS e).toArray] g' n' K)
    (hlen : xs.length < 1000000) {K : Cont} (hK : ∀ n', K (idxV (xs.findIdx? p)) g n') : AC slices_IndexFunc_array_Slot_array_Slot_id [v, such] g n K := by
  refine ACalls.fold X0_mono ?_
  rw [← slices_IndexFunc_array_Slot_array_Slot_eq]
  simp only [slices_IndexFunc_array_Slot_array_Slot]
  refine hv.len ?_
  refine lfp_ind (fun m t g' n' => g' = g ∧ ∃ i : Nat, m = xs.length - i ∧ i ≤ xs.length ∧ t 0 = v ∧ t 1 = such ∧ t 7 = .int .i64 xs.length ∧ t 8 = .int .i64 i ∧ (∀ x ∈ xs.take i, p x = false)) ?_
    (m := xs.length) ⟨rfl, 0, by simp, by simp, rfl, rfl, rfl, rfl, by simp⟩
  rintro I m t g1 n1 hI ⟨rfl, i, hm, hi, h0, h1, h7, h8, hp⟩
  simp only [slices_IndexFunc_array_Slot_array_Slot_l1, h0, h1, h7, h8, kBin_lss, kSplit_b, decide_eq_true_eq, decide_eq_false_iff_not]
  refine ⟨fun hlt => ?_, fun hge => ?_⟩
  · have hlt : i < xs.length := by omega
    have he : xs[i]? = some xs[i] := List.getElem?_eq_getElem hlt
    have hei : xs[i] = xs[i] := rfl
    generalize hx : xs[i] = e at he
    refine hv.idx encS_len he (fun l o ha => ?_)
    simp only [kPtr_p]
    refine ha.ldN (encS_len e).symm ?_
    refine hsuch _ _ _ _ (Sub.refl _) (fun n2 => ?_)
    simp only [kSplit_b, kBin_add]
    refine ⟨fun hpe => aRet_of (Sub.refl _) ?_, fun hpe => ?_⟩
    · have : xs.findIdx? p = some i := by
        rw [List.findIdx?_eq_some_iff_getElem]
        refine ⟨hlt, by rw [hx]; exact hpe, fun j hj => ?_⟩
        have := hp xs[j] (List.mem_of_getElem? (i := j) (by rw [List.getElem?_take, if_pos hj, List.getElem?_eq_getElem]))
        simp [this]
      have := hK n2
      rw [‹xs.findIdx? p = some i›] at this
      exact this
    · rw [wrapNat (by omega)]
      refine hI (xs.length - (i + 1)) _ _ _ (by omega) ⟨rfl, i + 1, rfl, by omega, h0, h1, h7, rfl, ?_⟩
      intro x hx'
      rw [take_add he] at hx'
      rcases List.mem_append.1 hx' with h | h
      · exact hp x h
      · simp at h; subst h; exact hpe
  · have : i = xs.length := by omega
    subst this
    rw [List.take_length] at hp
    have h : xs.findIdx? p = none := by rw [List.findIdx?_eq_none_iff]; exact hp
    have := hK n1
    rw [h] at this
    exact aRet_of (Sub.refl _) this

theorem DeleteFunc_Slot_spec {g0 : G} {v such : Value} (p : St → Bool) {xs : List St} (hv : OwnS encS 11 g0 g v xs) (hs0 : Sub g0 g)
    (hsuch : ∀ (g' : G) (n' : Nat) (e : St) (K : Cont), Sub g0 g' → (∀ n, K (.bool (p e)) g' n) → kCall AC such [.agg (encS e).toArray] g' n' K)
    (hlen : xs.length < 1000000) {K : Cont} (hK : ∀ v' g' n', Sub g0 g' → Sl encS 11 g' v' (xs.filter fun e => !p e) → K v' g' n') : AC slices_DeleteFunc_array_Slot_array_Slot_id [v, such] g n K := by
  refine ACalls.fold X0_mono ?_
  rw [← slices_DeleteFunc_array_Slot_array_Slot_eq]
  simp only [slices_DeleteFunc_array_Slot_array_Slot]
  refine IndexFunc_Slot_spec p hv.sl (fun g' n' e K hs => hsuch g' n' e K (hs0.trans hs)) hlen (fun n1 => ?_)
  cases hidx : xs.findIdx? p with
  | none =>
    rw [List.findIdx?_eq_none_iff] at hidx
    simp only [idxV, kBin_eql]
    refine kSplit_t rfl (aRet_of (Sub.refl _) (hK _ _ _ hs0 ?_))
    have : xs.filter (fun e => !p e) = xs := by rw [List.filter_eq_self]; intro x hx; simp [hidx x hx]
    rw [this]; exact hv.sl
  | some i0 =>
    rw [List.findIdx?_eq_some_iff_getElem] at hidx
    obtain ⟨hi0, hpi, hbefore⟩ := hidx
    rcases hv with ⟨h, _⟩ | ⟨l, c, bk, rfl, hg, h0, hl, hck⟩
    · exact absurd hi0 (by omega)
    have hrw : bk.rw = true := by rcases hck with ⟨_, rfl, _⟩ | ⟨_, rfl⟩ <;> rfl
    simp only [idxV, kBin_eql, kBin_add]
    refine kSplit_f (by simp) ?_
    rw [wrapNat (by omega)]
    have hi0e : xs[i0]? = some xs[i0] := List.getElem?_eq_getElem hi0
    have hbf : ∀ x ∈ xs.take i0, p x = false := by
      intro x hx
      obtain ⟨j, hj⟩ := List.getElem?_of_mem hx
      rw [List.getElem?_take] at hj
      split at hj
      · rename_i hji
        have := hbefore j hji
        rw [List.getElem?_eq_getElem (by omega)] at hj
        cases hj
        simpa using this
      · cases hj
    have hf0 : (xs.take (i0 + 1)).filter (fun e => !p e) = xs.take i0 := by rw [take_add hi0e, List.filter_append, filter_take_none hbf]; simp [hpi]
    have hl0 : (xs.take i0).length = i0 := by rw [List.length_take]; omega
    refine lfp_ind (fun m t g' n' => Sub g0 g' ∧ ∃ (j : Nat) (ys : List St), m = xs.length - j ∧ j ≤ xs.length ∧ t 0 = .slice (some ⟨l, 0, none⟩) xs.length c ∧ t 1 = such ∧
        t 5 = .int .i64 (((xs.take j).filter fun e => !p e).length : Nat) ∧ t 6 = .int .i64 j ∧ ys.length = xs.length ∧ Blk1 encS g' l ys bk ∧ ((xs.take j).filter fun e => !p e).length < j ∧
        ys.take ((xs.take j).filter fun e => !p e).length = (xs.take j).filter (fun e => !p e) ∧ ys.drop j = xs.drop j) ?_
      (m := xs.length - (i0 + 1)) ⟨hs0, i0 + 1, xs, rfl, by omega, rfl, rfl, ?_, rfl, rfl, hg, ?_, ?_, rfl⟩
    · rintro I m t g1 n2 hI ⟨hs1, j, ys, hm, hj, t0, t1, t5, t6, hyl, hb, hfj, hyt, hyd⟩
      simp only [slices_DeleteFunc_array_Slot_array_Slot_l1, t0, t1, t5, t6, kLen_s, kBin_lss, kSplit_b, decide_eq_true_eq, decide_eq_false_iff_not]
      refine ⟨fun hlt => ?_, fun hge => ?_⟩
      · have hlt : j < xs.length := by omega
        have he : xs[j]? = some xs[j] := List.getElem?_eq_getElem hlt
        generalize xs[j] = e at he
        have hye : ys[j]? = some e := by
          have h1 := drop_get he
          rw [← hyd] at h1
          have : (ys.drop j)[0]? = some e := by rw [h1]; rfl
          simpa using this
        have hd1 : ys.drop (j + 1) = xs.drop (j + 1) := by
          have h1 := drop_get he
          rw [← hyd, drop_get hye] at h1
          exact (List.cons.inj h1).2
        refine kIndexAddr_s (by omega) (by omega) ?_
        simp only [kPtr_p, Int.toNat_natCast, Nat.zero_add]
        refine hb.ldN encS_len hye ?_
        intro hn2
        simp only [kAgg_a]
        refine ⟨encS_len e, kStN_of (upd_same _ _ _) rfl (by rw [encS_len]; decide) (encS_cell e) ?_⟩
        have hs3 : Sub g1 _ := (((Sub.refl g1).new hn2 (some (.cells [(.int .i64 0), (.int .i64 0), (.int .u64 0), (.int .u64 0), (.int .u64 0), (.int .u64 0), (.int .u64 0), (.int .u64 0), (.int .u64 0), (.int .u64 0), (.int .i64 0)] .exact))).upd_fresh (some (.cells (encS e) .exact)) hn2)
        have hl3 : (upd (upd g1 n2 (some (.cells [(.int .i64 0), (.int .i64 0), (.int .u64 0), (.int .u64 0), (.int .u64 0), (.int .u64 0), (.int .u64 0), (.int .u64 0), (.int .u64 0), (.int .u64 0), (.int .i64 0)] .exact))) n2 (some (.cells (encS e) .exact))) n2 = some (.cells (encS e) .exact) := upd_same _ _ _
        rw [splice_all (cs := [(.int .i64 0), (.int .i64 0), (.int .u64 0), (.int .u64 0), (.int .u64 0), (.int .u64 0), (.int .u64 0), (.int .u64 0), (.int .u64 0), (.int .u64 0), (.int .i64 0)]) (vs := encS e) (by rw [encS_len]; rfl)]
        refine ldS (upd_same _ _ _) ?_
        refine hsuch _ _ e _ (hs1.trans hs3) (fun n3 => ?_)
        simp only [kUn_not, kSplit_b, kBin_add]
        have next : ∀ (t : Env) (g4 : G) (n1 : Nat) (zs : List St), Sub g0 g4 → t 0 = .slice (some ⟨l, 0, none⟩) xs.length c → t 1 = such → t 5 = .int .i64 (((xs.take (j + 1)).filter fun e => !p e).length : Nat) → t 6 = .int .i64 j → zs.length = xs.length → Blk1 encS g4 l zs bk →
            ((xs.take (j + 1)).filter fun e => !p e).length < j + 1 → zs.take ((xs.take (j + 1)).filter fun e => !p e).length = (xs.take (j + 1)).filter (fun e => !p e) → zs.drop (j + 1) = xs.drop (j + 1) → slices_DeleteFunc_array_Slot_array_Slot_j2 AC K I t g4 n1 := by
          intro t g4 n1 zs hs t0 t1 t5 t6 h1 h2 h3 h4 h5
          simp only [slices_DeleteFunc_array_Slot_array_Slot_j2, t6, kBin_add]
          rw [wrapNat (by omega)]
          exact hI (xs.length - (j + 1)) _ _ _ (by omega) ⟨hs, j + 1, zs, rfl, by omega, t0, t1, t5, rfl, h1, h2, h3, h4, h5⟩
        refine ⟨fun hpe => ?_, fun hpe => ?_⟩
        · have hpe : p e = false := by simpa using hpe
          have hf : (xs.take (j + 1)).filter (fun e => !p e) = (xs.take j).filter (fun e => !p e) ++ [e] := by rw [take_add he]; simp [hpe]
          refine ldS hl3 ?_
          refine kIndexAddr_s (by omega) (by omega) ?_
          simp only [kPtr_p, kAgg_a, Int.toNat_natCast, Nat.zero_add]
          refine ⟨encS_len e, (hb.mono hs3).stN (i := ((xs.take j).filter fun e => !p e).length) (y := e) encS_len encS_cell hrw (by omega) (fun hb' => ?_)⟩
          rw [wrapNat (by omega)]
          refine next _ _ _ (ys.set ((xs.take j).filter fun e => !p e).length e) ((hs1.trans hs3).upd_fresh _ h0) t0 t1 ?_ t6 (by simpa using hyl) hb' (by rw [hf]; simp; omega) ?_ ?_
          · show Value.int .i64 _ = _
            rw [hf]; simp
          · rw [hf, List.length_append, List.length_singleton, take_set_one (by omega), hyt]
          · rw [List.drop_set, if_pos (by omega)]; exact hd1
        · have hpe : p e = true := by simpa using hpe
          have hf : (xs.take (j + 1)).filter (fun e => !p e) = (xs.take j).filter (fun e => !p e) := by rw [take_add he]; simp [hpe]
          exact next _ _ _ ys (hs1.trans hs3) t0 t1 (by rw [hf]; exact t5) t6 hyl (hb.mono hs3) (by rw [hf]; omega) (by rw [hf]; exact hyt) hd1
      · have hje : j = xs.length := by omega
        subst hje
        rw [List.take_length] at hfj hyt t5
        simp only [slices_DeleteFunc_array_Slot_array_Slot_j3]
        show kSlice (t 0) (some (t 5)) none none 11 _
        rw [t0, t5]
        have hcc : (c < LC ∧ xs.length ≤ c) ∨ c = LC + 11 := by rcases hck with ⟨h1, _, h2⟩ | ⟨h1, _⟩ <;> omega
        refine kSlice_from hcc (by omega) (fun o' c' ho => ?_)
        rw [← hyl]
        have fin : ∀ (g4 : G) (zs : List St), Sub g0 g4 → zs.take (xs.filter fun e => !p e).length = xs.filter (fun e => !p e) → zs.length = ys.length → Blk1 encS g4 l zs bk → kSlice (puts t [(16, .int .i64 xs.length), (17, .slice (some ⟨l, 0, none⟩) ys.length c), (18, .int .i64 ys.length), (19, .bool (decide ((xs.length : Int) < (ys.length : Int))))] 0) none (some (puts t [(16, .int .i64 xs.length), (17, .slice (some ⟨l, 0, none⟩) ys.length c), (18, .int .i64 ys.length), (19, .bool (decide ((xs.length : Int) < (ys.length : Int))))] 5)) none 11 fun v41 => aRet K v41 g4 n2 := by
          intro g4 zs hs hz hl hb
          show kSlice (t 0) none (some (t 5)) none 11 _
          rw [t0, t5]
          refine kSlice_to hcc (by omega) (aRet_of (Sub.refl _) (hK _ _ _ hs ?_))
          have := hb.sl (i := 0) (m := (xs.filter fun e => !p e).length) (c := c) encS_len (by omega)
          rw [Nat.zero_mul, List.drop_zero, hz] at this
          exact this
        rw [hyl]
        rw [hyl] at fin
        rw [show xs.length - (xs.filter fun e => !p e).length = ys.length - (xs.filter fun e => !p e).length by rw [hyl]]
        refine Blk1.clear (y := zeroS) encS_len encS_cell hb hrw (by omega) (fun h => ho (by omega)) (fun h => fin _ ys hs1 hyt hyl hb) (fun zs h1 h2 h3 => fin _ zs (hs1.upd_fresh _ h0) (by rw [h1]; exact hyt) (by omega) h3)
    · show Value.int .i64 _ = _
      rw [hf0, hl0]
    · rw [hf0, hl0]; omega
    · rw [hf0, hl0]
end Go.Proofs.YtjpckcikmfihlaaGreat.Gen

namespace Go.Proofs.YtjpckcikmfihlaaGreat.Gen
open Go Go.Proofs.YtjpckcikmfihlaaGreat.Abs Go.RowKit
variable {g : G} {n : Nat}

/-! what the array's functions come to, in plain words -/
def Arr.part (A : Arr) (line : Int) : List St := (A.l.drop (A.from line)).take A.ways
def Arr.at (A : Arr) (line : Int) : Option Nat := if line < 0 then none else (A.part line).findIdx? fun s => decide (s.state ≠ 0) && decide (s.line = line)
def Arr.free (A : Arr) (line : Int) : Option Nat := (A.part line).findIdx? fun s => decide (s.state = 0)
def Arr.put (A : Arr) (line : Int) (k : Nat) (s : St) : Arr := { A with l := A.l.set (A.from line + k) s }
def Arr.tick (A : Arr) : Arr := { A with used := A.used + 1 }
def Arr.set (A : Arr) (line state : Int) (d : Ln) : Int × Arr :=
  if line < 0 ∨ state < 1 ∨ 9 < state then (1, A) else
  match (A.at line).or (A.free line) with
  | none => (13, A)
  | some k => (0, A.tick.put line k ⟨state, line, d, A.used + 1⟩)
def Arr.slotAt (A : Arr) (line : Int) (k : Nat) : St := A.l.getD (A.from line + k) zeroS
def Arr.touch (A : Arr) (line : Int) : Arr := match A.at line with
  | none => A
  | some k => A.tick.put line k { A.slotAt line k with used := A.used + 1 }
def Arr.drop (A : Arr) (line : Int) : Arr := match A.at line with
  | none => A
  | some k => A.put line k zeroS
def Arr.find (A : Arr) (line : Int) : St × Bool := match A.at line with
  | none => (zeroS, false)
  | some k => (A.slotAt line k, true)
/-- the scan for room: what was found up to now -/
def roomScan : List St → Int → Int → Bool × Int
  | [], v, _ => (false, v)
  | s :: l, v, last => if s.state = 0 then (true, -1) else
    if 1 ≤ s.state ∧ s.state ≤ 3 ∧ (v < 0 ∨ s.used < last) then roomScan l s.line s.used else roomScan l v last
def Arr.room (A : Arr) (line : Int) : Bool × Int := if line < 0 then (false, -1) else roomScan (A.part line) (-1) 0
def Arr.slots (A : Arr) : List St := A.l.filter fun s => !decide (s.state = 0)

theorem Arr.part_len {A : Arr} (h : A.ok) {line : Int} (hl : 0 ≤ line) : (A.part line).length = A.ways := by
  have h1 := Arr.from_le h hl
  have h2 := h.2.2.2.1
  unfold Arr.part
  rw [List.length_take, List.length_drop]; omega
theorem Arr.part_get {A : Arr} (h : A.ok) {line : Int} (hl : 0 ≤ line) {k : Nat} (hk : k < A.ways) : (A.part line)[k]? = some (A.slotAt line k) := by
  have h1 := Arr.from_le h hl
  have h2 := h.2.2.2.1
  unfold Arr.part Arr.slotAt
  rw [List.getElem?_take, if_pos hk, List.getElem?_drop, List.getD_eq_getElem?_getD, List.getElem?_eq_getElem (by omega)]; rfl
theorem Arr.at_lt {A : Arr} (h : A.ok) {line : Int} {k : Nat} (hk : A.at line = some k) : 0 ≤ line ∧ k < A.ways := by
  unfold Arr.at at hk
  split at hk
  · cases hk
  · have := List.findIdx?_eq_some_iff_getElem.1 hk
    obtain ⟨h1, _⟩ := this
    rw [Arr.part_len h (by omega)] at h1
    exact ⟨by omega, h1⟩
theorem Arr.free_lt {A : Arr} (h : A.ok) {line : Int} (hl : 0 ≤ line) {k : Nat} (hk : A.free line = some k) : k < A.ways := by
  obtain ⟨h1, _⟩ := List.findIdx?_eq_some_iff_getElem.1 hk
  rw [Arr.part_len h hl] at h1
  exact h1
theorem Arr.put_ok {A : Arr} (h : A.ok) (line : Int) (k : Nat) (s : St) : (A.put line k s).ok := by
  obtain ⟨h1, h2, h3, h4, h5⟩ := h
  exact ⟨h1, h2, h3, by simp [Arr.put, h4], h5⟩

/-! the functions -/
theorem at1_spec {l3 : Nat} {e : St} {line : Int} (hl : g l3 = some (.cells [.int .i64 line] .exact)) {K : Cont} (hK : ∀ n', K (.bool (decide (e.state ≠ 0) && decide (e.line = line))) g n') :
    AC array_Array_at_1_id [.agg (encS e).toArray, ptr l3 0] g n K := by
  refine ACalls.fold X0_mono ?_
  rw [← array_Array_at_1_eq]
  simp only [array_Array_at_1, kAgg_a]
  intro hn
  have hs := (Sub.refl g).new hn (some (.cells (encS e) .exact))
  refine kLd_of (upd_same _ _ _) (encS_0 e) ?_
  simp only [kBin_neq, kSplit_b, decide_eq_true_eq, decide_eq_false_iff_not, kPtr_p]
  refine ⟨fun h => ?_, fun h => ?_⟩
  · refine kLd_of (upd_same _ _ _) (encS_1 e) ?_
    refine kLd_of (hs.live hl) rfl ?_
    simp only [kBin_eql]
    refine aRet_of hs ?_
    have := hK n
    rw [decide_eq_true h, Bool.true_and] at this
    exact hK _ |> fun k => by rw [decide_eq_true h, Bool.true_and] at k; exact k
  · exact aRet_of hs (by have k := hK (n + 1); rw [decide_eq_false h, Bool.false_and] at k; exact k)

theorem empty_spec {e : St} {K : Cont} (hK : ∀ n', K (.bool (decide (e.state = 0))) g n') : AC array_empty_id [.agg (encS e).toArray] g n K := by
  refine ACalls.fold X0_mono ?_
  rw [← array_empty_eq]
  simp only [array_empty, kAgg_a]
  intro hn
  refine kLd_of (upd_same _ _ _) (encS_0 e) ?_
  simp only [kBin_eql]
  exact aRet_of ((Sub.refl g).new hn _) (hK _)

theorem setV_sl {A : Arr} {la ls : Nat} {line : Int} (hok : A.ok) (hh : ArrH g la ls A) (hl : 0 ≤ line) : Sl encS 11 g (setV ls A line) (A.part line) := by
  have h1 := Arr.from_le hok hl
  exact hh.row.sl encS_len (by rw [hok.2.2.2.1]; exact h1)

theorem at_spec {A : Arr} {la ls : Nat} {line : Int} (hok : A.ok) (hh : ArrH g la ls A) {K : Cont} (hK : ∀ n', K (idxV (A.at line)) g n') : AC array_Array_at_id [ptr la 0, .int .i64 line] g n K := by
  refine ACalls.fold X0_mono ?_
  rw [← array_Array_at_eq]
  simp only [array_Array_at]
  refine ⟨rfl, ?_⟩
  intro hn
  have hs := (Sub.refl g).new hn (some (.cells [.int .i64 line] .exact))
  have hl3 := upd_same g n (some (.cells [.int .i64 line] .exact))
  generalize upd g n (some (.cells [.int .i64 line] .exact)) = g1 at *
  simp only [kBin_p_eql]
  refine kSplit_f rfl (kLd_of hl3 rfl ?_)
  simp only [kBin_lss, kSplit_b, decide_eq_true_eq, decide_eq_false_iff_not]
  refine ⟨fun h => aRet_of hs ?_, fun h => ?_⟩
  · have := hK (n + 1)
    unfold Arr.at at this
    rw [if_pos h] at this
    exact this
  · refine kLd_of hl3 rfl ?_
    refine set_spec hok (hh.mono hs) (by omega) (fun n2 => ?_)
    refine IndexFunc_Slot_spec (fun s => decide (s.state ≠ 0) && decide (s.line = line)) (setV_sl hok (hh.mono hs) (by omega)) (fun g' n' e K hs' hK' => ?_) (by rw [Arr.part_len hok (by omega)]; have := hok.2.2.1; omega) (fun n3 => aRet_of hs ?_)
    · simp only [kCall_f]
      exact at1_spec (hs'.live hl3) hK'
    · have := hK n3
      unfold Arr.at at this
      rw [if_neg h] at this
      exact this

theorem number_spec {A : Arr} {la ls : Nat} (hok : A.ok) (hh : ArrH g la ls A) {K : Cont}
    (hK : ∀ n', K (.int .i64 (A.used + 1)) (upd g la (some (.cells (ArrC A.tick ls) .exact))) n') : AC array_Array_number_id [ptr la 0] g n K := by
  refine ACalls.fold X0_mono ?_
  rw [← array_Array_number_eq]
  simp only [array_Array_number, kNil_p, kPtr_p, Nat.zero_add]
  refine kLd_of hh.obj rfl ?_
  have hu := hok.2.2.2.2
  simp only [kBin_add]
  rw [wrap64_of (by omega) (by omega)]
  refine kSt_of hh.obj rfl (by simp [ArrC]) rfl ?_
  refine kLd_of (upd_same _ _ _) rfl ?_
  exact aRet_of (Sub.refl _) (hK _)
theorem ArrH.tick {A : Arr} {la ls : Nat} (hh : ArrH g la ls A) : ArrH (upd g la (some (.cells (ArrC A.tick ls) .exact))) la ls A.tick :=
  ⟨upd_same _ _ _, by show upd g la _ ls = _; rw [upd_ne _ _ (fun e => hh.ne e.symm)]; exact hh.row, hh.ne⟩
/-- a slot written: as a whole -/
theorem ArrH.stS {A : Arr} {la ls : Nat} {line : Int} {k : Nat} {s : St} {K : G → Prop} (hok : A.ok) (hl : 0 ≤ line) (hh : ArrH g la ls A) (hk : k < A.ways)
    (kk : ∀ g', Sub (hide g la ls) g' → ArrH g' la ls (A.put line k s) → K g') : kStN g ls (A.from line * 11 + k * 11) (encS s) K := by
  have h1 := Arr.from_le hok hl
  have h2 := hok.2.2.2.1
  rw [← Nat.add_mul]
  refine hh.row.stN encS_len encS_cell rfl (by omega) (fun hb => kk _ ?_ ⟨?_, hb, hh.ne⟩)
  · exact (hide_sub g la ls).upd_fresh _ (hide_ls _ _ _)
  · rw [upd_ne _ _ hh.ne]; exact hh.obj
theorem kFill_slot {a b u : Int} {d : Ln} {K : List Value → Prop} (k : K (encS ⟨a, b, d, u⟩)) : kFill (encS zeroS) [(0, none, .int .i64 a), (1, none, .int .i64 b), (2, some 8, .agg (encL d).toArray), (10, none, .int .i64 u)] K := by
  refine ⟨rfl, by rw [encS_len]; decide, rfl, by rw [List.length_set, encS_len]; decide, ?_⟩
  refine ⟨encL_len d, by simp [encS_len], rfl, ?_, ?_⟩
  · simp only [splice, List.length_append, List.length_take, List.length_drop, List.length_set, encS_len, encL_len]; omega
  · have : (splice ((((encS zeroS).set 0 (.int .i64 a)).set 1 (.int .i64 b))) 2 (encL d)).set 10 (.int .i64 u) = encS ⟨a, b, d, u⟩ := by
      have e : splice ((((encS zeroS).set 0 (.int .i64 a)).set 1 (.int .i64 b))) 2 (encL d) = [.int .i64 a, .int .i64 b] ++ encL d ++ [.int .i64 0] := by
        unfold splice
        rw [encL_len]
        rfl
      rw [e, List.set_append, if_neg (by simp [encL_len])]
      simp [encL_len, encS]
    rw [this]; exact k
end Go.Proofs.YtjpckcikmfihlaaGreat.Gen

namespace Go.Proofs.YtjpckcikmfihlaaGreat.Gen
open Go Go.Proofs.YtjpckcikmfihlaaGreat.Abs Go.RowKit
variable {g : G} {n : Nat}
theorem Arr.tick_ok {A : Arr} (h : A.ok) (hu : A.used < 100000) : A.tick.ok := by
  obtain ⟨h1, h2, h3, h4, h5, h6⟩ := h
  exact ⟨h1, h2, h3, h4, by show 0 ≤ A.used + 1; omega, by show A.used + 1 < 1000000; omega⟩

theorem Set_spec {A : Arr} {la ls : Nat} {line state : Int} {d : Ln} (hok : A.ok) (hu : A.used < 100000) (hh : ArrH g la ls A) {K : Cont}
    (hK : ∀ g' n', Sub (hide g la ls) g' → ArrH g' la ls (A.set line state d).2 → K (.int .i64 (A.set line state d).1) g' n') :
    AC array_Array_Set_id [ptr la 0, .int .i64 line, .int .i64 state, .agg (encL d).toArray] g n K := by
  refine ACalls.fold X0_mono ?_
  rw [← array_Array_Set_eq]
  simp only [array_Array_Set, kAgg_a]
  intro hn
  have hs := (Sub.refl g).new hn (some (.cells (encL d) .exact))
  have hl7 := upd_same g n (some (.cells (encL d) .exact))
  have hla := ne_of_live hh.obj hn
  generalize upd g n (some (.cells (encL d) .exact)) = g1 at *
  have hh1 := hh.mono hs
  have err : ∀ m, (line < 0 ∨ state < 1 ∨ 9 < state) → aRet K (.int .i64 1) g1 m := by
    intro m h
    have e : A.set line state d = (1, A) := by unfold Arr.set; rw [if_pos h]
    rw [e] at hK
    exact aRet_of (Sub.refl _) (hK _ _ ((hide_sub g la ls).trans hs) hh1)
  simp only [kBin_p_eql]
  refine kSplit_f rfl ?_
  simp only [kBin_lss, kBin_gtr, kSplit_b, decide_eq_true_eq, decide_eq_false_iff_not]
  refine ⟨fun h => err _ (.inl h), fun h1 => ⟨fun h => err _ (.inr (.inl h)), fun h2 => ⟨fun h => err _ (.inr (.inr h)), fun h3 => ?_⟩⟩⟩
  have hl : 0 ≤ line := by omega
  have hne : ¬ (line < 0 ∨ state < 1 ∨ 9 < state) := by omega
  have j1 : ∀ (t : Env) (m : Nat), t 0 = ptr la 0 → t 1 = .int .i64 line → t 2 = .int .i64 state → t 7 = ptr n 0 → t 9 = idxV ((A.at line).or (A.free line)) → t 10 = setV ls A line → array_Array_Set_j1 AC K t g1 m := by
    intro t m t0 t1 t2 t7 t9 t10
    simp only [array_Array_Set_j1, t0, t1, t2, t7, t9, t10]
    cases ho : (A.at line).or (A.free line) with
    | none =>
      have e : A.set line state d = (13, A) := by unfold Arr.set; rw [if_neg hne, ho]
      rw [e] at hK
      simp only [idxV, kBin_lss]
      exact kSplit_t rfl (aRet_of (Sub.refl _) (hK _ _ ((hide_sub g la ls).trans hs) hh1))
    | some k =>
      have e : A.set line state d = (0, A.tick.put line k ⟨state, line, d, A.used + 1⟩) := by unfold Arr.set; rw [if_neg hne, ho]
      rw [e] at hK
      have hk : k < A.ways := by
        cases ha : A.at line with
        | none => rw [ha] at ho; exact Arr.free_lt hok hl (by simpa using ho)
        | some k' => rw [ha] at ho; simp at ho; subst ho; exact (Arr.at_lt hok ha).2
      simp only [idxV, kBin_lss]
      refine kSplit_f (by simp) ?_
      simp only [kPtr_p]
      refine ldL hl7 ?_
      refine number_spec hok hh1 (fun n2 => ?_)
      refine ⟨upd_ne _ _ hla, kFill_slot ?_⟩
      refine kIndexAddr_s (by omega) (by omega) ?_
      simp only [kPtr_p, kAgg_a, Int.toNat_natCast]
      refine ⟨encS_len _, ArrH.stS (A := A.tick) (line := line) (Arr.tick_ok hok hu) hl hh1.tick hk (fun g' hs' hh' => aRet_of (Sub.refl _) (hK _ _ ?_ hh'))⟩
      rw [hide_upd] at hs'
      exact (hide_mono hs).trans hs'
  refine at_spec hok hh1 (fun n2 => ?_)
  refine set_spec hok hh1 hl (fun n3 => ?_)
  cases ha : A.at line with
  | none =>
    simp only [idxV, kBin_lss]
    refine kSplit_t rfl ?_
    refine IndexFunc_Slot_spec (fun s => decide (s.state = 0)) (setV_sl hok hh1 hl) (fun g' n' e K hs' hK' => ?_) (by rw [Arr.part_len hok hl]; have := hok.2.2.1; omega) (fun n4 => ?_)
    · simp only [kCall_f]
      exact empty_spec hK'
    · exact j1 _ _ rfl rfl rfl rfl (by rw [ha]; rfl) rfl
  | some k =>
    simp only [idxV, kBin_lss]
    refine kSplit_f (by simp) ?_
    exact j1 _ _ rfl rfl rfl rfl (by rw [ha]; rfl) rfl
end Go.Proofs.YtjpckcikmfihlaaGreat.Gen

namespace Go.Proofs.YtjpckcikmfihlaaGreat.Gen
open Go Go.Proofs.YtjpckcikmfihlaaGreat.Abs Go.RowKit
variable {g : G} {n : Nat}
theorem flat_set1 {α : Type} {enc : α → List Value} {z : Nat} (hz : ∀ x, (enc x).length = z) {xs : List α} {i j : Nat} {x y : α} {v : Value} (hi : xs[i]? = some x) (hj : j < z) (hy : enc y = (enc x).set j v) :
    ((xs.map enc).flatten).set (i * z + j) v = ((xs.set i y).map enc).flatten := by
  have hlt : i < xs.length := by rcases Nat.lt_or_ge i xs.length with h | h; exact h; rw [List.getElem?_eq_none h] at hi; cases hi
  have e : xs = xs.take i ++ x :: xs.drop (i + 1) := by
    rw [List.getElem?_eq_getElem hlt] at hi
    cases hi
    rw [← List.drop_eq_getElem_cons hlt, List.take_append_drop]
  have e2 : xs.set i y = xs.take i ++ y :: xs.drop (i + 1) := by rw [List.set_eq_take_append_cons_drop, if_pos hlt]
  have hl : ((xs.take i).map enc).flatten.length = i * z := by rw [flat_len enc z hz, List.length_take]; congr 1; omega
  rw [e2]
  conv => lhs; rw [e]
  simp only [List.map_append, List.map_cons, List.flatten_append, List.flatten_cons]
  rw [List.set_append, if_neg (by omega), hl, show i * z + j - i * z = j by omega, List.set_append, if_pos (by rw [hz]; exact hj), hy]

theorem Touch_spec {A : Arr} {la ls : Nat} {line : Int} (hok : A.ok) (hu : A.used < 100000) (hh : ArrH g la ls A) {K : Cont}
    (hK : ∀ g' n', Sub (hide g la ls) g' → ArrH g' la ls (A.touch line) → K (.tuple #[]) g' n') : AC array_Array_Touch_id [ptr la 0, .int .i64 line] g n K := by
  refine ACalls.fold X0_mono ?_
  rw [← array_Array_Touch_eq]
  simp only [array_Array_Touch]
  refine at_spec hok hh (fun n1 => ?_)
  cases ha : A.at line with
  | none =>
    have e : A.touch line = A := by unfold Arr.touch; rw [ha]
    rw [e] at hK
    simp only [idxV, kBin_geq]
    exact kSplit_f rfl (aRet_of (Sub.refl _) (hK _ _ (hide_sub g la ls) hh))
  | some k =>
    have e : A.touch line = A.tick.put line k { A.slotAt line k with used := A.used + 1 } := by unfold Arr.touch; rw [ha]
    rw [e] at hK
    obtain ⟨hl, hk⟩ := Arr.at_lt hok ha
    have h1 := Arr.from_le hok hl
    have h2 := hok.2.2.2.1
    simp only [idxV, kBin_geq]
    refine kSplit_t (by simp) ?_
    refine set_spec hok hh hl (fun n3 => ?_)
    refine number_spec hok hh (fun n4 => ?_)
    refine kIndexAddr_s (by omega) (by omega) ?_
    simp only [kPtr_p, Int.toNat_natCast]
    have hr := hh.tick.row
    have hlen : ((A.l.map encS).flatten).length = A.l.length * 11 := flat_len encS 11 encS_len _
    refine kSt_of hr rfl ?_ rfl ?_
    · show _ < ((A.l.map encS).flatten).length
      rw [hlen]; omega
    · have hx : A.l[A.from line + k]? = some (A.slotAt line k) := by
        unfold Arr.slotAt
        rw [List.getD_eq_getElem?_getD, List.getElem?_eq_getElem (by omega)]; rfl
      have hy : encS { A.slotAt line k with used := A.used + 1 } = (encS (A.slotAt line k)).set 10 (.int .i64 (A.used + 1)) := by
        unfold encS
        rw [List.set_append, if_neg (by simp [encL_len])]
        simp [encL_len]
      have := flat_set1 (z := 11) encS_len hx (by decide) hy
      rw [Nat.add_mul] at this
      show aRet K _ (upd _ ls (some (.cells (((A.l.map encS).flatten).set (A.from line * 11 + k * 11 + 10) (.int .i64 (A.used + 1))) .exact))) n4
      rw [this]
      refine aRet_of (Sub.refl _) (hK _ _ ?_ ⟨?_, upd_same _ _ _, hh.ne⟩)
      · have := (hide_sub (upd g la (some (.cells (ArrC A.tick ls) .exact))) la ls).upd_fresh (some (.cells ((A.l.set (A.from line + k) { A.slotAt line k with used := A.used + 1 }).map encS).flatten .exact)) (hide_ls _ _ _)
        rw [hide_upd] at this
        exact this
      · rw [upd_ne _ _ hh.ne]; exact hh.tick.obj

theorem Drop_spec {A : Arr} {la ls : Nat} {line : Int} (hok : A.ok) (hh : ArrH g la ls A) {K : Cont}
    (hK : ∀ g' n', Sub (hide g la ls) g' → ArrH g' la ls (A.drop line) → K (.bool (A.at line).isSome) g' n') : AC array_Array_Drop_id [ptr la 0, .int .i64 line] g n K := by
  refine ACalls.fold X0_mono ?_
  rw [← array_Array_Drop_eq]
  simp only [array_Array_Drop]
  refine at_spec hok hh (fun n1 => ?_)
  cases ha : A.at line with
  | none =>
    have e : A.drop line = A := by unfold Arr.drop; rw [ha]
    rw [e, ha] at hK
    simp only [idxV, kBin_geq]
    refine kSplit_f rfl ?_
    simp only [array_Array_Drop_j1]
    show kBin .int .geq (.int .i64 (-1)) (.int .i64 0) _
    simp only [kBin_geq]
    exact aRet_of (Sub.refl _) (hK _ _ (hide_sub g la ls) hh)
  | some k =>
    have e : A.drop line = A.put line k zeroS := by unfold Arr.drop; rw [ha]
    rw [e, ha] at hK
    obtain ⟨hl, hk⟩ := Arr.at_lt hok ha
    have hw := hok.2.2.1
    simp only [idxV, kBin_geq]
    refine kSplit_t (by simp) ?_
    refine set_spec hok hh hl (fun n3 => ?_)
    simp only [kFill_nil]
    refine kIndexAddr_s (by omega) (by omega) ?_
    simp only [kPtr_p, kAgg_a, Int.toNat_natCast]
    refine ⟨rfl, ArrH.stS (s := zeroS) hok hl hh hk (fun g' hs' hh' => ?_)⟩
    simp only [array_Array_Drop_j1]
    show kBin .int .geq (.int .i64 (k : Int)) (.int .i64 0) _
    simp only [kBin_geq]
    refine aRet_of (Sub.refl _) ?_
    have := hK _ n3 hs' hh'
    rw [decide_eq_true (by omega)]
    exact this

theorem Find_spec {A : Arr} {la ls : Nat} {line : Int} (hok : A.ok) (hh : ArrH g la ls A) {K : Cont}
    (hK : ∀ n', K (.tuple #[.agg (encS (A.find line).1).toArray, .bool (A.find line).2]) g n') : AC array_Array_Find_id [ptr la 0, .int .i64 line] g n K := by
  refine ACalls.fold X0_mono ?_
  rw [← array_Array_Find_eq]
  simp only [array_Array_Find]
  intro hn
  have hs := (Sub.refl g).new hn (some (.cells (encS zeroS) .exact))
  have hl4 := upd_same g n (some (.cells (encS zeroS) .exact))
  change AC _ _ (upd g n (some (.cells (encS zeroS) .exact))) _ _
  have hh1 := hh.mono hs
  refine at_spec hok hh1 (fun n1 => ?_)
  cases ha : A.at line with
  | none =>
    have e : A.find line = (zeroS, false) := by unfold Arr.find; rw [ha]
    rw [e] at hK
    simp only [idxV, kBin_lss]
    refine kSplit_t rfl ?_
    simp only [kFill_nil, kAgg_a]
    refine ⟨rfl, kStN_of hl4 rfl (Nat.le_refl 11) (encS_cell zeroS) ?_⟩
    refine ldS (x := zeroS) (upd_same _ _ _) ?_
    exact aRet_of (hs.upd_fresh _ hn) (hK _)
  | some k =>
    have e : A.find line = (A.slotAt line k, true) := by unfold Arr.find; rw [ha]
    rw [e] at hK
    obtain ⟨hl, hk⟩ := Arr.at_lt hok ha
    simp only [idxV, kBin_lss]
    refine kSplit_f (by simp) ?_
    refine set_spec hok hh1 hl (fun n3 => ?_)
    refine (setV_sl hok hh1 hl).idx encS_len (Arr.part_get hok hl hk) (fun l o hat => ?_)
    simp only [kPtr_p]
    refine hat.ldN (encS_len _).symm ?_
    simp only [kAgg_a]
    refine ⟨encS_len _, kStN_of hl4 rfl (by rw [encS_len, encS_len]; decide) (encS_cell _) ?_⟩
    rw [splice_all (by rw [encS_len, encS_len])]
    refine ldS (x := A.slotAt line k) (upd_same _ _ _) ?_
    exact aRet_of (hs.upd_fresh _ hn) (hK _)
end Go.Proofs.YtjpckcikmfihlaaGreat.Gen

namespace Go.Proofs.YtjpckcikmfihlaaGreat.Gen
open Go Go.Proofs.YtjpckcikmfihlaaGreat.Abs Go.RowKit
variable {g : G} {n : Nat}

theorem Room_spec {A : Arr} {la ls : Nat} {line : Int} (hok : A.ok) (hh : ArrH g la ls A) {K : Cont}
    (hK : ∀ n', K (.tuple #[.bool (A.room line).1, .int .i64 (A.room line).2]) g n') : AC array_Array_Room_id [ptr la 0, .int .i64 line] g n K := by
  refine ACalls.fold X0_mono ?_
  rw [← array_Array_Room_eq]
  simp only [array_Array_Room, kBin_p_eql]
  refine kSplit_f rfl ?_
  simp only [kBin_lss, kSplit_b, decide_eq_true_eq, decide_eq_false_iff_not]
  refine ⟨fun h => ?_, fun h => ?_⟩
  · unfold Arr.room at hK
    rw [if_pos h] at hK
    exact aRet_of (Sub.refl _) (hK _)
  have hl : 0 ≤ line := by omega
  have hw := hok.2.2.1
  have hpl := Arr.part_len hok hl
  unfold Arr.room at hK
  rw [if_neg h] at hK
  refine set_spec hok hh hl (fun n1 => ?_)
  unfold setV
  simp only [kLen_s]
  refine lfp_ind (fun m t g' n' => Sub g g' ∧ ∃ (i : Nat) (v last : Int), m = A.ways - i ∧ i ≤ A.ways ∧ t 17 = setV ls A line ∧ t 18 = .int .i64 A.ways ∧ t 19 = .int .i64 i ∧ t 5 = .int .i64 v ∧ t 6 = .int .i64 last ∧
      roomScan ((A.part line).drop i) v last = roomScan (A.part line) (-1) 0) ?_ (m := A.ways) ⟨Sub.refl _, 0, -1, 0, by simp, by simp, rfl, rfl, rfl, rfl, rfl, by simp⟩
  rintro I m t g1 n2 hI ⟨hs1, i, v, last, hm, hi, t17, t18, t19, t5, t6, hsc⟩
  simp only [array_Array_Room_l1, t17, t18, t19, kBin_lss, kSplit_b, decide_eq_true_eq, decide_eq_false_iff_not]
  refine ⟨fun hlt => ?_, fun hge => ?_⟩
  · have hlt : i < A.ways := by omega
    have he : (A.part line)[i]? = some (A.slotAt line i) := Arr.part_get hok hl hlt
    generalize A.slotAt line i = s at he
    rw [drop_get he] at hsc
    refine (setV_sl hok (hh.mono hs1) hl).idx encS_len he (fun l o hat => ?_)
    simp only [kPtr_p]
    refine hat.ldN (encS_len _).symm ?_
    intro hn
    simp only [kAgg_a]
    refine ⟨encS_len _, kStN_of (upd_same _ _ _) rfl (by rw [encS_len]; decide) (encS_cell _) ?_⟩
    rw [splice_all (cs := [.int .i64 0, .int .i64 0, .int .u64 0, .int .u64 0, .int .u64 0, .int .u64 0, .int .u64 0, .int .u64 0, .int .u64 0, .int .u64 0, .int .i64 0]) (by rw [encS_len]; rfl)]
    have hs2 := ((Sub.refl g1).new hn (some (.cells [.int .i64 0, .int .i64 0, .int .u64 0, .int .u64 0, .int .u64 0, .int .u64 0, .int .u64 0, .int .u64 0, .int .u64 0, .int .u64 0, .int .i64 0] .exact))).upd_fresh (some (.cells (encS s) .exact)) hn
    have hl8 := upd_same (upd g1 n2 (some (.cells [.int .i64 0, .int .i64 0, .int .u64 0, .int .u64 0, .int .u64 0, .int .u64 0, .int .u64 0, .int .u64 0, .int .u64 0, .int .u64 0, .int .i64 0] .exact))) n2 (some (.cells (encS s) .exact))
    generalize upd (upd g1 n2 (some (.cells [.int .i64 0, .int .i64 0, .int .u64 0, .int .u64 0, .int .u64 0, .int .u64 0, .int .u64 0, .int .u64 0, .int .u64 0, .int .u64 0, .int .i64 0] .exact))) n2 (some (.cells (encS s) .exact)) = g2 at *
    have hsg := hs1.trans hs2
    have next : ∀ (t : Env) (m : Nat) (v' last' : Int), t 17 = setV ls A line → t 18 = .int .i64 A.ways → t 5 = .int .i64 v' → t 6 = .int .i64 last' → t 19 = .int .i64 ((i + 1 : Nat) : Int) → roomScan ((A.part line).drop (i + 1)) v' last' = roomScan (A.part line) (-1) 0 → I t g2 m := by
      intro t m v' last' t17 t18 t5 t6 t19 h
      exact hI (A.ways - (i + 1)) _ _ _ (by omega) ⟨hsg, i + 1, v', last', rfl, by omega, t17, t18, t19, t5, t6, h⟩
    have j2 : ∀ (t : Env) (m : Nat), s.state ≠ 0 → t 17 = setV ls A line → t 18 = .int .i64 A.ways → t 19 = .int .i64 i → t 5 = .int .i64 v → t 6 = .int .i64 last → t 8 = ptr n2 0 → t 27 = .bool (decide (1 ≤ s.state ∧ s.state ≤ 3)) → array_Array_Room_j2 AC K I t g2 m := by
      intro t m h0 t17 t18 t19 t5 t6 t8 t27
      simp only [array_Array_Room_j2, t27, t5, t6, t8, t19, kPtr_p, kBin_lss, kBin_add, kSplit_b, decide_eq_true_eq, decide_eq_false_iff_not]
      rw [wrapNat (by omega)]
      simp only [roomScan, if_neg h0] at hsc
      have ld1 : ∀ {K' : Value → Prop}, K' (.int .i64 s.line) → kLd g2 n2 (0 + 1) K' := fun k => kLd_of hl8 (encS_1 s) k
      have ld10 : ∀ {K' : Value → Prop}, K' (.int .i64 s.used) → kLd g2 n2 (0 + 10) K' := fun k => kLd_of hl8 (encS_10 s) k
      refine ⟨fun hr => ⟨fun hv => ld1 (ld10 ?_), fun hv => ld10 ?_⟩, fun hr => ?_⟩
      · rw [if_pos ⟨hr.1, hr.2, .inl hv⟩] at hsc
        exact next _ _ _ _ t17 t18 rfl rfl rfl hsc
      · simp only [kBin_lss, kSplit_b, decide_eq_true_eq, decide_eq_false_iff_not]
        refine ⟨fun hu => ld1 (ld10 ?_), fun hu => ?_⟩
        · rw [if_pos ⟨hr.1, hr.2, .inr hu⟩] at hsc
          exact next _ _ _ _ t17 t18 rfl rfl rfl hsc
        · rw [if_neg (by omega)] at hsc
          exact next _ _ _ _ t17 t18 t5 t6 rfl hsc
      · rw [if_neg (by omega)] at hsc
        exact next _ _ _ _ t17 t18 t5 t6 rfl hsc
    refine kLd_of hl8 (encS_0 s) ?_
    simp only [kBin_eql, kSplit_b, decide_eq_true_eq, decide_eq_false_iff_not]
    refine ⟨fun h0 => ?_, fun h0 => ⟨fun h1 => ?_, fun h1 => ⟨fun h2 => ?_, fun h2 => ?_⟩⟩⟩
    · simp only [roomScan, if_pos h0] at hsc
      rw [← hsc] at hK
      exact aRet_of hsg (hK _)
    · exact j2 _ _ h0 t17 t18 t19 t5 t6 rfl (by rw [show decide (1 ≤ s.state ∧ s.state ≤ 3) = true from by rw [decide_eq_true_eq]; omega]; show Value.bool _ = _; rw [decide_eq_true h1])
    · exact j2 _ _ h0 t17 t18 t19 t5 t6 rfl (by rw [show decide (1 ≤ s.state ∧ s.state ≤ 3) = true from by rw [decide_eq_true_eq]; omega]; show Value.bool _ = _; rw [decide_eq_true h2])
    · refine j2 _ _ h0 t17 t18 t19 t5 t6 rfl ?_
      show Value.bool (decide (s.state = 3)) = _
      congr 1
      rw [decide_eq_decide]; omega
  · have : i = A.ways := by omega
    subst this
    rw [List.drop_of_length_le (by omega)] at hsc
    simp only [roomScan] at hsc
    rw [← hsc] at hK
    simp only [array_Array_Room_j3]
    show aRet K (.tuple #[.bool false, t 5]) g1 n2
    rw [t5]
    exact aRet_of hs1 (hK _)
end Go.Proofs.YtjpckcikmfihlaaGreat.Gen

namespace Go.Proofs.YtjpckcikmfihlaaGreat.Gen
open Go Go.Proofs.YtjpckcikmfihlaaGreat.Abs Go.RowKit
variable {g : G} {n : Nat}

@[simp] theorem kBin_s_eql {a : Addr} {m c : Nat} {K : Value → Prop} : kBin .slice .eql (.slice (some a) m c) (.slice none 0 0) K = K (.bool false) := rfl

theorem Clone_Slot_spec {v : Value} {l o m c : Nat} {xs : List St} (hv : v = .slice (some ⟨l, o, none⟩) m c) (h : Sl encS 11 g v xs) (hlen : xs.length < 1000000) {K : Cont}
    (hK : ∀ v' g' n', Sub g g' → OwnS encS 11 g g' v' xs → K v' g' n') : AC slices_Clone_array_Slot_array_Slot_id [v] g n K := by
  subst hv
  refine ACalls.fold X0_mono ?_
  rw [← slices_Clone_array_Slot_array_Slot_eq]
  simp only [slices_Clone_array_Slot_array_Slot, kBin_s_eql]
  refine kSplit_f rfl ?_
  simp only [kFill_nil]
  intro hn
  have hs := (Sub.refl g).new hn (some (.cells (reps 0 [.int .i64 0, .int .i64 0, .int .u64 0, .int .u64 0, .int .u64 0, .int .u64 0, .int .u64 0, .int .u64 0, .int .u64 0, .int .u64 0, .int .i64 0]) .exact))
  refine OwnS.append (g0 := g) (xs := ([] : List St)) OwnS.empty hs (h.mono hs) encS_cell (by decide) (by simp; omega) (by simp; omega) (fun v' g' n' hs' ho' _ _ => aRet_of (Sub.refl _) (hK _ _ _ hs' ?_))
  simpa using ho'

theorem Slots_spec {A : Arr} {la ls : Nat} (hok : A.ok) (hh : ArrH g la ls A) {K : Cont}
    (hK : ∀ v' g' n', Sub g g' → Sl encS 11 g' v' A.slots → K v' g' n') : AC array_Array_Slots_id [ptr la 0] g n K := by
  refine ACalls.fold X0_mono ?_
  rw [← array_Array_Slots_eq]
  simp only [array_Array_Slots, kBin_p_eql]
  refine kSplit_f rfl ?_
  simp only [kNil_p, kPtr_p, Nat.zero_add]
  refine kLd_of hh.obj rfl ?_
  have hlen : A.l.length < 1000000 := by have := Arr.small hok; have := hok.2.2.2.1; omega
  have hsl : Sl encS 11 g (.slice (some ⟨ls, 0, none⟩) (A.sets * A.ways) (A.sets * A.ways)) A.l := by
    have := hh.row.sl (i := 0) (m := A.sets * A.ways) (c := A.sets * A.ways) encS_len (by rw [hok.2.2.2.1]; omega)
    rw [Nat.zero_mul, List.drop_zero, List.take_of_length_le (by rw [hok.2.2.2.1]; exact Nat.le_refl _)] at this
    exact this
  refine Clone_Slot_spec rfl hsl hlen (fun v1 g1 n1 hs1 ho1 => ?_)
  refine DeleteFunc_Slot_spec (fun s => decide (s.state = 0)) ho1 hs1 (fun g' n' e K hs' hK' => ?_) hlen (fun v2 g2 n2 hs2 h2 => aRet_of (Sub.refl _) (hK _ _ _ hs2 h2))
  simp only [kCall_f]
  exact empty_spec hK'

def arr0 (s w : Nat) : Arr := ⟨s, w, List.replicate (s * w) zeroS, 0⟩
theorem arr0_ok {s w : Nat} (hs : s = 1 ∨ s = 2 ∨ s = 4 ∨ s = 8) (h1 : 1 ≤ w) (h2 : w ≤ 8) : (arr0 s w).ok := ⟨hs, h1, h2, by simp [arr0], by simp [arr0], by simp [arr0]⟩
def goodA (s w : Int) : Prop := (s = 1 ∨ s = 2 ∨ s = 4 ∨ s = 8) ∧ 1 ≤ w ∧ w ≤ 8
theorem New_tail {s w : Nat} (hsm : s * w ≤ 64) {K : Cont} (hK : ∀ la ls g' n', Sub g g' → g la = none → g ls = none → ArrH g' la ls (arr0 s w) → K (.tuple #[ptr la 0, .int .i64 0]) g' n') :
    kMake (.int .i64 ((s * w : Nat) : Int)) (.int .i64 ((s * w : Nat) : Int)) (encS zeroS) 88 g n fun v33 g3 n33 =>
    kFill [(.int .i64 0), (.int .i64 0), (.slice none 0 0), (.int .i64 0)] [(0, none, .int .i64 s), (1, none, .int .i64 w), (2, none, v33)] fun c34 =>
    kAgg (.agg c34.toArray) fun c35 =>
    kNew c35 .exact g3 n33 fun l35 g4 n35 =>
    aRet K (.tuple #[(ptr l35 0), (.int .i64 0)]) g4 n35 := by
  refine ⟨by omega, by omega, by omega, by omega, ?_⟩
  intro hn
  simp only [Int.toNat_natCast]
  refine ⟨rfl, by simp, rfl, by simp, rfl, by simp, ?_⟩
  simp only [kFill_nil, kAgg_a]
  intro hn2
  have hs1 := (Sub.refl g).new hn (some (.cells (reps (s * w) (encS zeroS)) .exact))
  have hne := ne_of_live (upd_same g n (some (.cells (reps (s * w) (encS zeroS)) .exact))) hn2
  refine aRet_of (Sub.refl _) (hK _ _ _ _ (hs1.new hn2 _) (hs1.none hn2) hn ⟨upd_same _ _ _, ?_, hne⟩)
  show upd _ _ _ _ = _
  rw [upd_ne _ _ (fun e => hne e.symm), upd_same, flat_reps]
  rfl
theorem New_body {s w : Int} {K : Cont} (hbad : ¬ goodA s w → ∀ n', K (.tuple #[.pointer none, .int .i64 1]) g n')
    (hK : goodA s w → ∀ la ls g' n', Sub g g' → g la = none → g ls = none → ArrH g' la ls (arr0 s.toNat w.toNat) → K (.tuple #[ptr la 0, .int .i64 0]) g' n') : array_New AC (.int .i64 s) (.int .i64 w) g n K := by
  simp only [array_New, kBin_neq, kBin_lss, kBin_gtr, kBin_mul, kSplit_b, decide_eq_true_eq, decide_eq_false_iff_not]
  have bad : ¬ goodA s w → aRet K (.tuple #[.pointer none, .int .i64 1]) g n := fun h => aRet_of (Sub.refl _) (hbad h _)
  have tail : (s = 1 ∨ s = 2 ∨ s = 4 ∨ s = 8) → ((w < 1 → aRet K (.tuple #[.pointer none, .int .i64 1]) g n) ∧ (¬ w < 1 → (8 < w → aRet K (.tuple #[.pointer none, .int .i64 1]) g n) ∧ (¬ 8 < w →
      kMake (.int .i64 (IntKind.i64.wrap (s * w))) (.int .i64 (IntKind.i64.wrap (s * w))) [(.int .i64 0), (.int .i64 0), (.int .u64 0), (.int .u64 0), (.int .u64 0), (.int .u64 0), (.int .u64 0), (.int .u64 0), (.int .u64 0), (.int .u64 0), (.int .i64 0)] 88 g n fun v33 g3 n33 =>
      kFill [(.int .i64 0), (.int .i64 0), (.slice none 0 0), (.int .i64 0)] [(0, none, .int .i64 s), (1, none, .int .i64 w), (2, none, v33)] fun c34 =>
      kAgg (.agg c34.toArray) fun c35 =>
      kNew c35 .exact g3 n33 fun l35 g4 n35 =>
      aRet K (.tuple #[(ptr l35 0), (.int .i64 0)]) g4 n35))) := by
    intro hs
    refine ⟨fun h => bad (fun hg => by have := hg.2; omega), fun h1 => ⟨fun h => bad (fun hg => by have := hg.2; omega), fun h2 => ?_⟩⟩
    obtain ⟨s', rfl⟩ : ∃ s' : Nat, s = s' := ⟨s.toNat, by omega⟩
    obtain ⟨w', rfl⟩ : ∃ w' : Nat, w = w' := ⟨w.toNat, by omega⟩
    have hsm : s' * w' ≤ 64 := by
      have := Nat.mul_le_mul (show s' ≤ 8 by omega) (show w' ≤ 8 by omega)
      omega
    rw [← Int.natCast_mul, wrap64_of (by omega) (by omega)]
    exact New_tail hsm (fun la ls g' n' a b c d => hK ⟨hs, by omega, by omega⟩ la ls g' n' a b c d)
  refine ⟨fun h1 => ⟨fun h2 => ⟨fun h4 => ⟨fun h8 => bad (fun hg => by have := hg.1; omega), fun h8 => tail (by omega)⟩, fun h4 => tail (by omega)⟩, fun h2 => tail (by omega)⟩, fun h1 => tail (by omega)⟩
theorem New_spec {s w : Int} {K : Cont} (hbad : ¬ goodA s w → ∀ n', K (.tuple #[.pointer none, .int .i64 1]) g n')
    (hK : goodA s w → ∀ la ls g' n', Sub g g' → g la = none → g ls = none → ArrH g' la ls (arr0 s.toNat w.toNat) → K (.tuple #[ptr la 0, .int .i64 0]) g' n') : AC array_New_id [.int .i64 s, .int .i64 w] g n K := by
  refine ACalls.fold X0_mono ?_
  rw [← array_New_eq]
  exact New_body hbad hK
end Go.Proofs.YtjpckcikmfihlaaGreat.Gen

namespace Go.Proofs.YtjpckcikmfihlaaGreat.Gen
open Go Go.Proofs.YtjpckcikmfihlaaGreat.Abs Go.RowKit

/-- what always holds of an array's slots -/
structure Arr.wf (A : Arr) : Prop where
  place : ∀ (i : Nat) (s : St), A.l[i]? = some s → s.state ≠ 0 → 0 ≤ s.line ∧ A.from s.line ≤ i ∧ i < A.from s.line + A.ways ∧ 1 ≤ s.state ∧ s.state ≤ 9
  once : ∀ (i j : Nat) (s t : St), A.l[i]? = some s → A.l[j]? = some t → s.state ≠ 0 → t.state ≠ 0 → (s.line = t.line ∨ s.used = t.used) → i = j
  used : ∀ (i : Nat) (s : St), A.l[i]? = some s → s.state ≠ 0 → 1 ≤ s.used ∧ s.used ≤ A.used

theorem Arr.part_idx {A : Arr} {line : Int} {k : Nat} (hk : k < A.ways) : (A.part line)[k]? = A.l[A.from line + k]? := by
  unfold Arr.part
  rw [List.getElem?_take, if_pos hk, List.getElem?_drop]
/-- where a line stands -/
theorem Arr.at_some {A : Arr} (h : A.ok) {line : Int} {k : Nat} (hk : A.at line = some k) : ∃ s, A.l[A.from line + k]? = some s ∧ s.state ≠ 0 ∧ s.line = line ∧ A.slotAt line k = s := by
  obtain ⟨hl, hlt⟩ := Arr.at_lt h hk
  unfold Arr.at at hk
  rw [if_neg (by omega)] at hk
  obtain ⟨h1, h2, _⟩ := List.findIdx?_eq_some_iff_getElem.1 hk
  have e2 := Arr.part_get h hl hlt
  rw [Arr.part_idx hlt] at e2
  simp only [Bool.and_eq_true, decide_eq_true_eq] at h2
  refine ⟨_, e2, ?_⟩
  have e3 : (A.part line)[k] = A.slotAt line k := by
    have := Arr.part_get h hl hlt
    rw [List.getElem?_eq_getElem h1] at this
    exact Option.some.inj this
  rw [e3] at h2
  exact ⟨h2.1, h2.2, rfl⟩
theorem Arr.at_none {A : Arr} (h : A.ok) (hw : A.wf) {line : Int} (hk : A.at line = none) : ∀ (i : Nat) (s : St), A.l[i]? = some s → s.state ≠ 0 → s.line ≠ line := by
  intro i s hi hs e
  subst e
  obtain ⟨h0, h1, h2, _⟩ := hw.place i s hi hs
  unfold Arr.at at hk
  rw [if_neg (by omega), List.findIdx?_eq_none_iff] at hk
  have hm : s ∈ A.part s.line := by
    have : (A.part s.line)[i - A.from s.line]? = some s := by
      rw [Arr.part_idx (by omega), show A.from s.line + (i - A.from s.line) = i by omega]; exact hi
    exact List.mem_of_getElem? this
  have := hk s hm
  simp [hs] at this
theorem Arr.at_of {A : Arr} (h : A.ok) (hw : A.wf) {i : Nat} {s : St} (hi : A.l[i]? = some s) (hs : s.state ≠ 0) : A.at s.line = some (i - A.from s.line) := by
  cases ha : A.at s.line with
  | none => exact absurd rfl (Arr.at_none h hw ha i s hi hs)
  | some k =>
    obtain ⟨t, ht, ht0, hl, _⟩ := Arr.at_some h ha
    have := hw.once _ _ _ _ ht hi ht0 hs (.inl hl)
    congr 1; omega
theorem Arr.free_some {A : Arr} (h : A.ok) {line : Int} (hl : 0 ≤ line) {k : Nat} (hk : A.free line = some k) : ∃ s, A.l[A.from line + k]? = some s ∧ s.state = 0 := by
  have hlt := Arr.free_lt h hl hk
  obtain ⟨h1, h2, _⟩ := List.findIdx?_eq_some_iff_getElem.1 hk
  refine ⟨(A.part line)[k], ?_, by simpa using h2⟩
  rw [← Arr.part_idx hlt, List.getElem?_eq_getElem h1]
theorem Arr.free_none {A : Arr} {line : Int} (hk : A.free line = none) : ∀ (k : Nat) (s : St), k < A.ways → A.l[A.from line + k]? = some s → s.state ≠ 0 := by
  intro k s hlt hi
  unfold Arr.free at hk
  rw [List.findIdx?_eq_none_iff] at hk
  have := hk s (List.mem_of_getElem? (by rw [Arr.part_idx hlt]; exact hi))
  simpa using this
theorem Arr.part_mem {A : Arr} {line : Int} {s : St} (hm : s ∈ A.part line) : ∃ i, A.l[i]? = some s ∧ A.from line ≤ i ∧ i < A.from line + A.ways := by
  obtain ⟨j, hj⟩ := List.getElem?_of_mem hm
  unfold Arr.part at hj
  rw [List.getElem?_take] at hj
  split at hj
  · rename_i hlt
    rw [List.getElem?_drop] at hj
    exact ⟨_, hj, by omega, by omega⟩
  · cases hj
theorem Arr.slotAt_get {A : Arr} (h : A.ok) {line : Int} (hl : 0 ≤ line) {k : Nat} (hk : k < A.ways) : A.l[A.from line + k]? = some (A.slotAt line k) := by
  rw [← Arr.part_idx hk]; exact Arr.part_get h hl hk
/-- a slot is written with a new number: of a line of this set that stands here, or nowhere -/
theorem Arr.put_wf {A : Arr} (h : A.ok) (hw : A.wf) {line : Int} (hl : 0 ≤ line) {k : Nat} (hk : k < A.ways) {s : St} (hs : s.line = line) (hu : s.used = A.used + 1) (h1 : 1 ≤ s.state) (h9 : s.state ≤ 9)
    (hat : ∀ (i : Nat) (t : St), A.l[i]? = some t → t.state ≠ 0 → t.line = line → i = A.from line + k) : (A.tick.put line k s).wf := by
  have hf := Arr.from_le h hl
  have hu0 := h.2.2.2.2.1
  have key : ∀ (i : Nat) (t : St), (A.tick.put line k s).l[i]? = some t → (i = A.from line + k ∧ t = s) ∨ (i ≠ A.from line + k ∧ A.l[i]? = some t) := by
    intro i t hi
    have hi : (A.l.set (A.from line + k) s)[i]? = some t := hi
    rw [List.getElem?_set] at hi
    split at hi
    · rename_i e
      split at hi
      · cases hi; exact .inl ⟨e.symm, rfl⟩
      · cases hi
    · rename_i e; exact .inr ⟨fun x => e x.symm, hi⟩
  refine ⟨?_, ?_, ?_⟩
  · intro i t hi ht
    rcases key i t hi with ⟨rfl, rfl⟩ | ⟨_, hi⟩
    · rw [hs]
      exact ⟨hl, by show A.from line ≤ _; omega, by show _ < A.from line + A.ways; omega, h1, h9⟩
    · exact hw.place i t hi ht
  · intro i j t t' hi hj ht ht' e
    rcases key i t hi with ⟨e1, e2⟩ | ⟨ni, hi2⟩ <;> rcases key j t' hj with ⟨e3, e4⟩ | ⟨nj, hj2⟩
    · rw [e1, e3]
    · rw [e2] at e
      rcases e with e | e
      · rw [e1]; exact (hat j t' hj2 ht' (by rw [← e, hs])).symm
      · have := hw.used j t' hj2 ht'; omega
    · rw [e4] at e
      rcases e with e | e
      · rw [e3]; exact hat i t hi2 ht (by rw [e, hs])
      · have := hw.used i t hi2 ht; omega
    · exact hw.once i j t t' hi2 hj2 ht ht' e
  · intro i t hi ht
    rcases key i t hi with ⟨rfl, rfl⟩ | ⟨_, hi⟩
    · exact ⟨by omega, by show t.used ≤ A.used + 1; omega⟩
    · have := hw.used i t hi ht
      exact ⟨this.1, by show t.used ≤ A.used + 1; omega⟩
theorem Arr.set_wf {A : Arr} (h : A.ok) (hw : A.wf) (line state : Int) (d : Ln) : (A.set line state d).2.wf := by
  unfold Arr.set
  split
  · exact hw
  · rename_i hc
    have hl : 0 ≤ line := by omega
    cases ha : A.at line with
    | some k =>
      obtain ⟨t, ht, ht0, htl, _⟩ := Arr.at_some h ha
      obtain ⟨_, hk⟩ := Arr.at_lt h ha
      simp only [Option.some_or]
      exact Arr.put_wf h hw hl hk rfl rfl (by show 1 ≤ state; omega) (by show state ≤ 9; omega) (fun i t' hi ht' e => hw.once _ _ _ _ hi ht ht' ht0 (.inl (by rw [e, htl])))
    | none =>
      simp only [Option.none_or]
      cases hf : A.free line with
      | none => exact hw
      | some k =>
        exact Arr.put_wf h hw hl (Arr.free_lt h hl hf) rfl rfl (by show 1 ≤ state; omega) (by show state ≤ 9; omega) (fun i t' hi ht' e => absurd e (Arr.at_none h hw ha i t' hi ht'))
theorem Arr.touch_wf {A : Arr} (h : A.ok) (hw : A.wf) (line : Int) : (A.touch line).wf := by
  unfold Arr.touch
  cases ha : A.at line with
  | none => exact hw
  | some k =>
    obtain ⟨t, ht, ht0, htl, hst⟩ := Arr.at_some h ha
    obtain ⟨hl, hk⟩ := Arr.at_lt h ha
    have hp := hw.place _ _ ht ht0
    refine Arr.put_wf h hw hl hk ?_ rfl ?_ ?_ (fun i t' hi ht' e => hw.once _ _ _ _ hi ht ht' ht0 (.inl (by rw [e, htl])))
    · show (A.slotAt line k).line = line; rw [hst]; exact htl
    · show 1 ≤ (A.slotAt line k).state; rw [hst]; exact hp.2.2.2.1
    · show (A.slotAt line k).state ≤ 9; rw [hst]; exact hp.2.2.2.2
theorem Arr.drop_wf {A : Arr} (hw : A.wf) (line : Int) : (A.drop line).wf := by
  unfold Arr.drop
  cases ha : A.at line with
  | none => exact hw
  | some k =>
    have key : ∀ (i : Nat) (t : St), (A.put line k zeroS).l[i]? = some t → t.state ≠ 0 → A.l[i]? = some t := by
      intro i t hi ht
      have hi : (A.l.set (A.from line + k) zeroS)[i]? = some t := hi
      rw [List.getElem?_set] at hi
      split at hi
      · split at hi
        · cases hi; exact absurd rfl ht
        · cases hi
      · exact hi
    exact ⟨fun i t hi ht => hw.place i t (key i t hi ht) ht, fun i j t t' hi hj ht ht' e => hw.once i j t t' (key i t hi ht) (key j t' hj ht') ht ht' e, fun i t hi ht => hw.used i t (key i t hi ht) ht⟩
theorem arr0_wf (s w : Nat) : (arr0 s w).wf := by
  have key : ∀ (i : Nat) (t : St), (arr0 s w).l[i]? = some t → t.state = 0 := by
    intro i t hi
    have := List.mem_of_getElem? hi
    have := (List.mem_replicate.1 this).2
    subst this; rfl
  exact ⟨fun i t hi ht => absurd (key i t hi) ht, fun i j t t' hi hj ht ht' e => absurd (key i t hi) ht, fun i t hi ht => absurd (key i t hi) ht⟩
theorem Arr.set_ok {A : Arr} (h : A.ok) (hu : A.used < 100000) (line state : Int) (d : Ln) : (A.set line state d).2.ok := by
  unfold Arr.set
  split
  · exact h
  · split
    · exact h
    · exact Arr.put_ok (Arr.tick_ok h hu) _ _ _
theorem Arr.touch_ok {A : Arr} (h : A.ok) (hu : A.used < 100000) (line : Int) : (A.touch line).ok := by
  unfold Arr.touch
  split
  · exact h
  · exact Arr.put_ok (Arr.tick_ok h hu) _ _ _
theorem Arr.drop_ok {A : Arr} (h : A.ok) (line : Int) : (A.drop line).ok := by
  unfold Arr.drop
  split
  · exact h
  · exact Arr.put_ok h _ _ _
theorem Arr.set_used (A : Arr) (line state : Int) (d : Ln) : A.used ≤ (A.set line state d).2.used ∧ (A.set line state d).2.used ≤ A.used + 1 := by
  unfold Arr.set
  split
  · exact ⟨Int.le_refl _, by show A.used ≤ A.used + 1; omega⟩
  · split
    · exact ⟨Int.le_refl _, by show A.used ≤ A.used + 1; omega⟩
    · exact ⟨by show A.used ≤ A.used + 1; omega, by show A.used + 1 ≤ A.used + 1; omega⟩
theorem Arr.touch_used (A : Arr) (line : Int) : A.used ≤ (A.touch line).used ∧ (A.touch line).used ≤ A.used + 1 := by
  unfold Arr.touch
  split
  · exact ⟨Int.le_refl _, by omega⟩
  · exact ⟨by show A.used ≤ A.used + 1; omega, by show A.used + 1 ≤ A.used + 1; omega⟩
theorem Arr.drop_used (A : Arr) (line : Int) : (A.drop line).used = A.used := by
  unfold Arr.drop
  split <;> rfl

/-! who is put out -/
def St.rest (s : St) : Prop := 1 ≤ s.state ∧ s.state ≤ 3
theorem roomScan_free : ∀ (l : List St) (v last : Int), (∃ s ∈ l, s.state = 0) → roomScan l v last = (true, -1)
  | [], _, _, h => by obtain ⟨_, h, _⟩ := h; cases h
  | s :: l, v, last, h => by
    unfold roomScan
    by_cases h0 : s.state = 0
    · rw [if_pos h0]
    · rw [if_neg h0]
      have : ∃ t ∈ l, t.state = 0 := by
        obtain ⟨t, ht, e⟩ := h
        rcases List.mem_cons.1 ht with rfl | ht
        · exact absurd e h0
        · exact ⟨t, ht, e⟩
      split <;> exact roomScan_free l _ _ this
/-- nobody is empty: who was used longest ago of those at rest, -1 if there is none -/
theorem roomScan_full : ∀ (l : List St) (v last : Int), (∀ s ∈ l, s.state ≠ 0) → (∀ s ∈ l, s.rest → 0 ≤ s.line) → (v = -1 ∨ 0 ≤ v) →
    ∃ v', roomScan l v last = (false, v') ∧ ((v' = -1 ∧ v = -1 ∧ ∀ s ∈ l, ¬ s.rest) ∨
      ∃ u, ((v' = v ∧ u = last ∧ 0 ≤ v) ∨ ∃ s ∈ l, s.rest ∧ s.line = v' ∧ s.used = u) ∧ (0 ≤ v → u ≤ last) ∧ ∀ s ∈ l, s.rest → u ≤ s.used)
  | [], v, last, _, _, hv => by
    refine ⟨v, rfl, ?_⟩
    rcases hv with rfl | hv
    · exact .inl ⟨rfl, rfl, by simp⟩
    · exact .inr ⟨last, .inl ⟨rfl, rfl, hv⟩, fun _ => Int.le_refl _, by simp⟩
  | s :: l, v, last, h0, hl, hv => by
    unfold roomScan
    rw [if_neg (h0 s (by simp))]
    have h0' : ∀ s ∈ l, s.state ≠ 0 := fun t ht => h0 t (by simp [ht])
    have hl' : ∀ s ∈ l, s.rest → 0 ≤ s.line := fun t ht => hl t (by simp [ht])
    by_cases hr : s.rest
    · have hls := hl s (by simp) hr
      by_cases hc : v < 0 ∨ s.used < last
      · rw [if_pos ⟨hr.1, hr.2, hc⟩]
        obtain ⟨v', e, hh⟩ := roomScan_full l s.line s.used h0' hl' (.inr hls)
        refine ⟨v', e, .inr ?_⟩
        rcases hh with ⟨_, h, _⟩ | ⟨u, h1, h2, h3⟩
        · omega
        · have h2 := h2 hls
          refine ⟨u, .inr ?_, fun _ => by omega, ?_⟩
          · rcases h1 with ⟨rfl, rfl, _⟩ | ⟨t, ht, h1⟩
            · exact ⟨s, by simp, hr, rfl, rfl⟩
            · exact ⟨t, by simp [ht], h1⟩
          · intro t ht
            rcases List.mem_cons.1 ht with rfl | ht
            · exact fun _ => h2
            · exact h3 t ht
      · rw [if_neg (fun h => hc h.2.2)]
        obtain ⟨v', e, hh⟩ := roomScan_full l v last h0' hl' hv
        refine ⟨v', e, .inr ?_⟩
        rcases hh with ⟨_, h, _⟩ | ⟨u, h1, h2, h3⟩
        · omega
        · have h2' := h2 (by omega)
          refine ⟨u, ?_, h2, ?_⟩
          · rcases h1 with h1 | ⟨t, ht, h1⟩
            · exact .inl h1
            · exact .inr ⟨t, by simp [ht], h1⟩
          · intro t ht
            rcases List.mem_cons.1 ht with rfl | ht
            · intro _; omega
            · exact h3 t ht
    · rw [if_neg (fun h => hr ⟨h.1, h.2.1⟩)]
      obtain ⟨v', e, hh⟩ := roomScan_full l v last h0' hl' hv
      refine ⟨v', e, ?_⟩
      rcases hh with ⟨h1, h2, h3⟩ | ⟨u, h1, h2, h3⟩
      · refine .inl ⟨h1, h2, fun t ht => ?_⟩
        rcases List.mem_cons.1 ht with rfl | ht
        · exact hr
        · exact h3 t ht
      · refine .inr ⟨u, ?_, h2, fun t ht => ?_⟩
        · rcases h1 with h1 | ⟨t, ht, h1⟩
          · exact .inl h1
          · exact .inr ⟨t, by simp [ht], h1⟩
        · rcases List.mem_cons.1 ht with rfl | ht
          · exact fun h => absurd h hr
          · exact h3 t ht
end Go.Proofs.YtjpckcikmfihlaaGreat.Gen

namespace Go.Proofs.YtjpckcikmfihlaaGreat.Gen
open Go Go.Proofs.YtjpckcikmfihlaaGreat.Abs Go.RowKit
variable {g : G} {n : Nat}

theorem encS_data (s : St) : ((encS s).drop 2).take 8 = encL s.data := by
  show ((encL s.data ++ [Value.int .i64 s.used]).take 8) = _
  rw [List.take_left' (encL_len _)]
/-- a line stands, in this slot -/
def Has (A : Arr) (m : Int) (s : St) : Prop := ∃ i : Nat, A.l[i]? = some s ∧ s.state ≠ 0 ∧ s.line = m
theorem Has.put {A : Arr} {m line : Int} {k : Nat} {s t : St} (h : Has A m s) (hk : ∀ u, A.l[A.from line + k]? = some u → u.state = 0 ∨ u.line ≠ m) : Has (A.put line k t) m s := by
  obtain ⟨i, hi, h0, hm⟩ := h
  refine ⟨i, ?_, h0, hm⟩
  show (A.l.set (A.from line + k) t)[i]? = some s
  rw [List.getElem?_set_ne]; exact hi
  intro e
  subst e
  rcases hk s hi with e | e
  · exact h0 e
  · exact e hm
theorem Has.set {A : Arr} (hok : A.ok) {m line state : Int} {d : Ln} {s : St} (h : Has A m s) (hne : m ≠ line) : Has (A.set line state d).2 m s := by
  unfold Arr.set
  split
  · exact h
  · rename_i hc
    have hl : 0 ≤ line := by omega
    cases ha : A.at line with
    | some k =>
      obtain ⟨t, ht, ht0, htl, _⟩ := Arr.at_some hok ha
      simp only [Option.some_or]
      refine Has.put (A := A.tick) h (fun u hu => .inr ?_)
      have : A.l[A.from line + k]? = some u := hu
      rw [ht] at this; cases this
      rw [htl]; exact fun e => hne e.symm
    | none =>
      simp only [Option.none_or]
      cases hf : A.free line with
      | none => exact h
      | some k =>
        obtain ⟨t, ht, ht0⟩ := Arr.free_some hok hl hf
        refine Has.put (A := A.tick) h (fun u hu => .inl ?_)
        have : A.l[A.from line + k]? = some u := hu
        rw [ht] at this; cases this
        exact ht0
theorem Has.drop {A : Arr} (hok : A.ok) {m line : Int} {s : St} (h : Has A m s) (hne : m ≠ line) : Has (A.drop line) m s := by
  unfold Arr.drop
  cases ha : A.at line with
  | none => exact h
  | some k =>
    obtain ⟨t, ht, ht0, htl, _⟩ := Arr.at_some hok ha
    refine Has.put h (fun u hu => .inr ?_)
    rw [ht] at hu; cases hu
    rw [htl]; exact fun e => hne e.symm
theorem Has.find {A : Arr} (hok : A.ok) (hw : A.wf) {m : Int} {s : St} (h : Has A m s) : A.find m = (s, true) ∧ (A.at m).isSome = true := by
  obtain ⟨i, hi, h0, rfl⟩ := h
  have ha := Arr.at_of hok hw hi h0
  obtain ⟨t, ht, ht0, htl, hst⟩ := Arr.at_some hok ha
  have := hw.once _ _ _ _ ht hi ht0 h0 (.inl htl)
  rw [this] at ht
  rw [ht] at hi; cases hi
  unfold Arr.find
  rw [ha]
  exact ⟨by show (A.slotAt _ _, true) = _; rw [hst], rfl⟩
/-- all slots' states are at most Mod -/
def Low (A : Arr) : Prop := ∀ s ∈ A.l, s.state ≤ 3
theorem Low.put {A : Arr} {line : Int} {k : Nat} {t : St} (h : Low A) (ht : t.state ≤ 3) : Low (A.put line k t) := by
  intro s hs
  rcases List.mem_or_eq_of_mem_set (show s ∈ A.l.set (A.from line + k) t from hs) with hs | rfl
  · exact h s hs
  · exact ht
theorem Low.set {A : Arr} {line state : Int} {d : Ln} (h : Low A) (hs : state ≤ 3) : Low (A.set line state d).2 := by
  unfold Arr.set
  split
  · exact h
  · split
    · exact h
    · exact Low.put (A := A.tick) h hs
theorem Low.drop {A : Arr} {line : Int} (h : Low A) : Low (A.drop line) := by
  unfold Arr.drop
  split
  · exact h
  · exact Low.put h (by decide)
theorem Arr.set_sets (A : Arr) (line state : Int) (d : Ln) : (A.set line state d).2.sets = A.sets ∧ (A.set line state d).2.ways = A.ways := by
  unfold Arr.set
  split
  · exact ⟨rfl, rfl⟩
  · split <;> exact ⟨rfl, rfl⟩
theorem Arr.drop_sets (A : Arr) (line : Int) : (A.drop line).sets = A.sets ∧ (A.drop line).ways = A.ways := by
  unfold Arr.drop
  split <;> exact ⟨rfl, rfl⟩
theorem Arr.touch_sets (A : Arr) (line : Int) : (A.touch line).sets = A.sets ∧ (A.touch line).ways = A.ways := by
  unfold Arr.touch
  split <;> exact ⟨rfl, rfl⟩
/-- no slot is empty, all are low: somebody may go, who stands in this set -/
theorem room_low {A : Arr} (hok : A.ok) (hw : A.wf) (hlow : Low A) {line : Int} (hl : 0 ≤ line) (hf : A.free line = none) :
    ∃ s, A.room line = (false, s.line) ∧ 0 ≤ s.line ∧ s.line % A.sets = line % A.sets ∧ Has A s.line s := by
  have hne : ∀ s ∈ A.part line, s.state ≠ 0 := by
    intro s hs
    obtain ⟨i, hi, h1, h2⟩ := Arr.part_mem hs
    exact Arr.free_none hf (i - A.from line) s (by omega) (by rw [show A.from line + (i - A.from line) = i by omega]; exact hi)
  have hpl := Arr.part_len hok hl
  have hrest : ∀ s ∈ A.part line, s.rest := by
    intro s hs
    obtain ⟨i, hi, h1, h2⟩ := Arr.part_mem hs
    exact ⟨(hw.place i s hi (hne s hs)).2.2.2.1, hlow s (List.mem_of_getElem? hi)⟩
  have hline : ∀ s ∈ A.part line, s.rest → 0 ≤ s.line := by
    intro s hs _
    obtain ⟨i, hi, h1, h2⟩ := Arr.part_mem hs
    exact (hw.place i s hi (hne s hs)).1
  obtain ⟨v', e, hh⟩ := roomScan_full (A.part line) (-1) 0 hne hline (.inl rfl)
  have h1 := hok.2.1
  rcases hh with ⟨_, _, h⟩ | ⟨u, h, _, _⟩
  · exfalso
    have hlt : 0 < (A.part line).length := by omega
    exact h _ (List.getElem_mem hlt) (hrest _ (List.getElem_mem hlt))
  · rcases h with ⟨_, _, h⟩ | ⟨s, hs, hr, rfl, rfl⟩
    · omega
    · obtain ⟨i, hi, h2, h3⟩ := Arr.part_mem hs
      have hp := hw.place i s hi (hne s hs)
      refine ⟨s, ?_, hp.1, ?_, i, hi, hne s hs, rfl⟩
      · unfold Arr.room
        rw [if_neg (by omega), e]
      · have a1 := hp.2.1
        have a2 := hp.2.2.1
        have b1 : 0 ≤ line % (A.sets : Int) := Int.emod_nonneg _ (by have := hok.1; omega)
        have b2 : 0 ≤ s.line % (A.sets : Int) := Int.emod_nonneg _ (by have := hok.1; omega)
        unfold Arr.from at a1 a2 h2 h3
        have key : (s.line % (A.sets : Int)).toNat = (line % (A.sets : Int)).toNat := by
          generalize (s.line % (A.sets : Int)).toNat = x at *
          generalize (line % (A.sets : Int)).toNat = y at *
          generalize A.ways = w at *
          rcases Nat.lt_trichotomy x y with h | h | h
          · have := Nat.mul_le_mul_right w (show x + 1 ≤ y from h)
            rw [Nat.add_mul] at this; omega
          · exact h
          · have := Nat.mul_le_mul_right w (show y + 1 ≤ x from h)
            rw [Nat.add_mul] at this; omega
        omega
end Go.Proofs.YtjpckcikmfihlaaGreat.Gen

namespace Go.Proofs.YtjpckcikmfihlaaGreat.Gen
open Go Go.Proofs.YtjpckcikmfihlaaGreat.Abs Go.RowKit
theorem Arr.len64 {A : Arr} (hok : A.ok) : A.l.length ≤ 64 := by rw [hok.2.2.2.1]; exact Arr.small hok
end Go.Proofs.YtjpckcikmfihlaaGreat.Gen

namespace Go.Proofs.YtjpckcikmfihlaaGreat.Gen
open Go Go.Proofs.YtjpckcikmfihlaaGreat.Abs Go.RowKit
variable {g : G} {n : Nat}
/-- a slot is laid into a new block -/
theorem newS {s : St} {K : Nat → G → Nat → Prop} (k : ∀ g2, Sub g g2 → g n = none → g2 n = some (.cells (encS s) .exact) → K n g2 (n + 1)) :
    kNew (encS zeroS) .exact g n fun l g1 n1 => kAgg (.agg (encS s).toArray) fun cg => cg.length = 11 ∧ kStN g1 l 0 cg fun g2 => K l g2 n1 := by
  intro hn
  simp only [kAgg_a]
  refine ⟨encS_len _, kStN_of (upd_same _ _ _) rfl (by rw [encS_len, encS_len]; decide) (encS_cell _) ?_⟩
  rw [splice_all (by rw [encS_len, encS_len])]
  exact k _ (((Sub.refl g).new hn _).upd_fresh _ hn) hn (upd_same _ _ _)
theorem newZ {K : Nat → G → Nat → Prop} (k : ∀ g2, Sub g g2 → g n = none → g2 n = some (.cells (encS zeroS) .exact) → K n g2 (n + 1)) : kNew (encS zeroS) .exact g n K :=
  fun hn => k _ ((Sub.refl g).new hn _) hn (upd_same _ _ _)
/-- messages -/
structure Ms where
  kind : Int
  line : Int
  dirty : Bool
  kept : Bool
  data : Ln
  deriving DecidableEq
def encM (m : Ms) : List Value := [.int .i64 m.kind, .int .i64 m.line, .bool m.dirty, .bool m.kept] ++ encL m.data
theorem encM_len (m : Ms) : (encM m).length = 12 := by simp [encM, encL_len]
theorem encM_cell (m : Ms) : ∀ v ∈ encM m, isCell v = true := by
  intro v hv
  simp only [encM, List.mem_append, List.mem_cons, List.not_mem_nil, or_false] at hv
  rcases hv with (rfl | rfl | rfl | rfl) | h
  · rfl
  · rfl
  · rfl
  · rfl
  · exact encL_cell _ v h
def zeroM : Ms := ⟨0, 0, false, false, zeroL⟩
theorem encM_data (m : Ms) : ((encM m).drop 4).take 8 = encL m.data := by
  show (encL m.data).take 8 = _
  rw [List.take_of_length_le (by rw [encL_len]; exact Nat.le_refl _)]
theorem ldMd {l : Nat} {m : Ms} {bk : BK} {K : List Value → Prop} (h : g l = some (.cells (encM m) bk)) (k : K (encL m.data)) : kLdN g l (0 + 4) 8 K := by
  refine kLdN_of h (by rw [encM_len]; decide) ?_
  rw [Nat.zero_add, encM_data]; exact k
theorem ldM {l : Nat} {m : Ms} {bk : BK} {K : List Value → Prop} (h : g l = some (.cells (encM m) bk)) (k : K (encM m)) : kLdN g l 0 12 K := by
  refine kLdN_of h (by rw [encM_len]; decide) ?_
  rw [List.drop_zero, List.take_of_length_le (by rw [encM_len]; exact Nat.le_refl _)]; exact k
theorem ldSd {l : Nat} {s : St} {bk : BK} {K : List Value → Prop} (h : g l = some (.cells (encS s) bk)) (k : K (encL s.data)) : kLdN g l (0 + 2) 8 K := by
  refine kLdN_of h (by rw [encS_len]; decide) ?_
  rw [Nat.zero_add, encS_data]; exact k
theorem ldS0 {l : Nat} {s : St} {bk : BK} {K : Value → Prop} (h : g l = some (.cells (encS s) bk)) (k : K (.int .i64 s.state)) : kLd g l (0 + 0) K := kLd_of h (encS_0 s) k
theorem ldS1 {l : Nat} {s : St} {bk : BK} {K : Value → Prop} (h : g l = some (.cells (encS s) bk)) (k : K (.int .i64 s.line)) : kLd g l (0 + 1) K := kLd_of h (encS_1 s) k
theorem newM {m : Ms} {K : Nat → G → Nat → Prop} (k : ∀ g2, Sub g g2 → g n = none → g2 n = some (.cells (encM m) .exact) → K n g2 (n + 1)) :
    kNew (encM zeroM) .exact g n fun l g1 n1 => kAgg (.agg (encM m).toArray) fun cg => cg.length = 12 ∧ kStN g1 l 0 cg fun g2 => K l g2 n1 := by
  intro hn
  simp only [kAgg_a]
  refine ⟨encM_len _, kStN_of (upd_same _ _ _) rfl (by rw [encM_len, encM_len]; decide) (encM_cell _) ?_⟩
  rw [splice_all (by rw [encM_len, encM_len])]
  exact k _ (((Sub.refl g).new hn _).upd_fresh _ hn) hn (upd_same _ _ _)
theorem kFill_m2 {a b : Int} {K : List Value → Prop} (k : K (encM ⟨a, b, false, false, zeroL⟩)) : kFill (encM zeroM) [(0, none, .int .i64 a), (1, none, .int .i64 b)] K := ⟨rfl, by rw [encM_len]; decide, rfl, by rw [List.length_set, encM_len]; decide, k⟩
theorem kFill_m1 {b : Int} {K : List Value → Prop} (k : K (encM ⟨0, b, false, false, zeroL⟩)) : kFill (encM zeroM) [(1, none, .int .i64 b)] K := ⟨rfl, by rw [encM_len]; decide, k⟩
theorem kFill_M {m : Ms} {K : List Value → Prop} (k : K (encM m)) : kFill (reps 1 (encM zeroM)) [(0, some 12, .agg (encM m).toArray)] K := by
  refine ⟨encM_len m, by rw [show (reps 1 (encM zeroM)).length = 12 from rfl]; decide, ?_⟩
  have : splice (reps 1 (encM zeroM)) 0 (encM m) = encM m := splice_all (by rw [encM_len]; rfl)
  rw [this]; exact k
theorem stMd {l : Nat} {m : Ms} {d : Ln} {K : G → Prop} (h : g l = some (.cells (encM m) .exact)) (k : K (upd g l (some (.cells (encM { m with data := d }) .exact)))) : kStN g l (0 + 4) (encL d) K := by
  refine kStN_of h rfl (by rw [encM_len, encL_len]; decide) (encL_cell _) ?_
  have e : splice (encM m) (0 + 4) (encL d) = encM { m with data := d } := by
    unfold splice encM
    rw [encL_len]
    show [_, _, _, _] ++ encL d ++ (encL m.data).drop 8 = _
    rw [List.drop_of_length_le (by rw [encL_len]; exact Nat.le_refl _), List.append_nil]
  rw [e]
  exact k
/-! agents -/
structure AgH (g : G) (lg la ls : Nat) (A : Arr) : Prop where
  obj : g lg = some (.cells [ptr la 0] .exact)
  arr : ArrH g la ls A
  n1 : lg ≠ la
  n2 : lg ≠ ls
theorem AgH.mono {g' : G} {lg la ls : Nat} {A : Arr} (h : AgH g lg la ls A) (hs : Sub g g') : AgH g' lg la ls A := ⟨hs.live h.obj, h.arr.mono hs, h.n1, h.n2⟩
theorem AgH.next {g' : G} {lg la ls : Nat} {A A' : Arr} (h : AgH g lg la ls A) (hs : Sub (hide g la ls) g') (ha : ArrH g' la ls A') : AgH g' lg la ls A' :=
  ⟨hs.live (hide_live h.n1 h.n2 h.obj), ha, h.n1, h.n2⟩
theorem ldA {lg la ls : Nat} {A : Arr} (h : AgH g lg la ls A) {K : Value → Prop} (k : K (ptr la 0)) : kLd g lg (0 + 0) K := kLd_of h.obj rfl k
def Arr.slot (A : Arr) (line : Int) : St := (A.find line).1
def isW (a b : Int) : Bool := decide (0 ≤ a ∧ a < 64 ∧ 0 ≤ b ∧ b < 8)
def restB (s : St) : Bool := decide (0 ≤ s.state ∧ s.state ≤ 3)
def Arr.idle (A : Arr) : Bool := (A.slots.findIdx? fun s => !restB s).isNone
def Arr.owns (A : Arr) (line : Int) : Bool := decide ((A.slot line).state = 2 ∨ (A.slot line).state = 3)

theorem is_spec {a b : Int} {K : Cont} (hK : ∀ n', K (.bool (isW a b)) g n') : AC agent_is_id [.int .i64 a, .int .i64 b] g n K := by
  refine ACalls.fold X0_mono ?_
  rw [← agent_is_eq]
  simp only [agent_is, kBin_geq, kBin_lss, kSplit_b, decide_eq_true_eq, decide_eq_false_iff_not]
  have no : ¬ (0 ≤ a ∧ a < 64 ∧ 0 ≤ b ∧ b < 8) → aRet K (.bool false) g n := fun h => by
    have k := hK n
    unfold isW at k
    rw [decide_eq_false h] at k
    exact aRet_of (Sub.refl _) k
  refine ⟨fun h1 => ⟨fun h2 => ⟨fun h3 => aRet_of (Sub.refl _) ?_, fun h3 => no (by omega)⟩, fun h2 => no (by omega)⟩, fun h1 => no (by omega)⟩
  have k := hK n
  unfold isW at k
  rw [show decide (0 ≤ a ∧ a < 64 ∧ 0 ≤ b ∧ b < 8) = decide (b < 8) from by rw [decide_eq_decide]; omega] at k
  exact k
theorem find_spec {A : Arr} {lg la ls : Nat} {line : Int} (hok : A.ok) (hh : AgH g lg la ls A) {K : Cont} (hK : ∀ n', K (.agg (encS (A.slot line)).toArray) g n') : AC agent_Agent_find_id [ptr lg 0, .int .i64 line] g n K := by
  refine ACalls.fold X0_mono ?_
  rw [← agent_Agent_find_eq]
  simp only [agent_Agent_find, kNil_p, kPtr_p]
  refine newZ (fun g1 hs hn hl4 => ?_)
  have hh1 := hh.mono hs
  refine ldA hh1 (Find_spec hok hh1.arr (fun n2 => ?_))
  simp only [kExtract_t, kGet_zero, kGet_succ]
  refine newS (s := A.slot line) (fun g2 hs2 hn2 hl5 => ?_)
  refine ldS hl5 ?_
  simp only [kAgg_a]
  refine ⟨encS_len _, kStN_of (hs2.live hl4) rfl (by rw [encS_len, encS_len]; decide) (encS_cell _) ?_⟩
  rw [splice_all (by rw [encS_len, encS_len])]
  refine ldS (x := A.slot line) (upd_same _ _ _) ?_
  exact aRet_of ((hs.trans hs2).upd_fresh _ hn) (hK _)
theorem Owns_spec {A : Arr} {lg la ls : Nat} {line : Int} (hok : A.ok) (hh : AgH g lg la ls A) {K : Cont} (hK : ∀ n', K (.bool (A.owns line)) g n') : AC agent_Agent_Owns_id [ptr lg 0, .int .i64 line] g n K := by
  refine ACalls.fold X0_mono ?_
  rw [← agent_Agent_Owns_eq]
  simp only [agent_Agent_Owns, kBin_p_eql]
  refine kSplit_f rfl (find_spec hok hh (fun n1 => newS (s := A.slot line) (fun g2 hs2 _ hl => ?_)))
  refine ldS0 hl ?_
  simp only [kBin_eql, kSplit_b, decide_eq_true_eq, decide_eq_false_iff_not]
  have k := hK (n1 + 1)
  unfold Arr.owns at k
  refine ⟨fun h => aRet_of hs2 ?_, fun h => ldS0 hl ?_⟩
  · rw [decide_eq_true (.inl h)] at k; exact k
  · rw [show decide ((A.slot line).state = 2 ∨ (A.slot line).state = 3) = decide ((A.slot line).state = 3) from by rw [decide_eq_decide]; omega] at k
    simp only [kBin_eql]
    exact aRet_of hs2 k
theorem AgSlots_spec {A : Arr} {lg la ls : Nat} (hok : A.ok) (hh : AgH g lg la ls A) {K : Cont} (hK : ∀ v' g' n', Sub g g' → Sl encS 11 g' v' A.slots → K v' g' n') : AC agent_Agent_Slots_id [ptr lg 0] g n K := by
  refine ACalls.fold X0_mono ?_
  rw [← agent_Agent_Slots_eq]
  simp only [agent_Agent_Slots, kBin_p_eql, kNil_p, kPtr_p]
  exact kSplit_f rfl (ldA hh (Slots_spec hok hh.arr (fun v' g' n' h1 h2 => aRet_of (Sub.refl _) (hK _ _ _ h1 h2))))
theorem slotsN {A : Arr} (hok : A.ok) : A.slots.length ≤ 64 := by
  have := List.length_filter_le (fun s : St => !decide (s.state = 0)) A.l
  have := Arr.len64 hok
  unfold Arr.slots; omega
theorem rests_spec {x : Int} {K : Cont} (hK : ∀ n', K (.bool (decide (0 ≤ x ∧ x ≤ 3))) g n') : AC agent_rests_id [.int .i64 x] g n K := by
  refine ACalls.fold X0_mono ?_
  rw [← agent_rests_eq]
  simp only [agent_rests, kBin_geq, kBin_leq, kSplit_b, decide_eq_true_eq, decide_eq_false_iff_not]
  refine ⟨fun h => aRet_of (Sub.refl _) ?_, fun h => aRet_of (Sub.refl _) ?_⟩
  · have k := hK n
    rw [show decide (0 ≤ x ∧ x ≤ 3) = decide (x ≤ 3) from by rw [decide_eq_decide]; omega] at k
    exact k
  · have k := hK n
    rw [decide_eq_false (by omega)] at k
    exact k
theorem Idle1_spec {e : St} {K : Cont} (hK : ∀ n', K (.bool (!restB e)) g n') : AC agent_Agent_Idle_1_id [.agg (encS e).toArray] g n K := by
  refine ACalls.fold X0_mono ?_
  rw [← agent_Agent_Idle_1_eq]
  simp only [agent_Agent_Idle_1, kAgg_a]
  intro hn
  refine ldS0 (s := e) (upd_same _ _ _) ?_
  refine rests_spec (fun n2 => ?_)
  simp only [kUn_not]
  exact aRet_of ((Sub.refl g).new hn _) (hK _)
theorem Idle_spec {A : Arr} {lg la ls : Nat} (hok : A.ok) (hh : AgH g lg la ls A) {K : Cont} (hK : ∀ n', K (.bool A.idle) g n') : AC agent_Agent_Idle_id [ptr lg 0] g n K := by
  refine ACalls.fold X0_mono ?_
  rw [← agent_Agent_Idle_eq]
  simp only [agent_Agent_Idle, kBin_p_eql, kNil_p, kPtr_p]
  refine kSplit_f rfl (ldA hh (Slots_spec hok hh.arr (fun v1 g1 n1 hs1 h1 => ?_)))
  refine ACalls.fold X0_mono ?_
  rw [← slices_ContainsFunc_array_Slot_array_Slot_eq]
  simp only [slices_ContainsFunc_array_Slot_array_Slot]
  refine IndexFunc_Slot_spec (fun s => !restB s) h1 (fun g' n' e K' hs' hK' => ?_) (by have := slotsN hok; omega) (fun n2 => ?_)
  · simp only [kCall_f]
    exact Idle1_spec hK'
  · have k := hK n2
    unfold Arr.idle at k
    revert k
    cases (A.slots.findIdx? fun s => !restB s) with
    | none => intro k; simp only [idxV, kBin_geq]; exact aRet_of (Sub.refl _) (aRet_of hs1 k)
    | some i => intro k; simp only [idxV, kBin_geq]; exact aRet_of (Sub.refl _) (by rw [decide_eq_true (by omega)]; exact aRet_of hs1 k)
end Go.Proofs.YtjpckcikmfihlaaGreat.Gen

namespace Go.Proofs.YtjpckcikmfihlaaGreat.Gen
open Go Go.Proofs.YtjpckcikmfihlaaGreat.Abs Go.RowKit
variable {g : G} {n : Nat}
/-- what a call leaves, that answers messages -/
structure Out (g g' : G) (lg la ls : Nat) (A : Arr) (v : Value) (ms : List Ms) : Prop where
  hs : Sub (hide g la ls) g'
  ag : AgH g' lg la ls A
  sl : Sl encM 12 g' v ms
  fr : ∀ l, blkOf v = some l → g l = none
theorem Out.of {g0 g g' : G} {lg la ls : Nat} {A : Arr} {v : Value} {ms : List Ms} (h : Out g g' lg la ls A v ms) (hs : Sub g0 g) : Out g0 g' lg la ls A v ms :=
  ⟨(hide_mono hs).trans h.hs, h.ag, h.sl, fun l hl => hs.none (h.fr l hl)⟩
theorem Out.nil {lg la ls : Nat} {A : Arr} (h : AgH g lg la ls A) : Out g g lg la ls A (.slice none 0 0) [] := ⟨hide_sub _ _ _, h, Sl.nil, fun l hl => nomatch hl⟩
theorem Out.one {g g5 g6 : G} {m : Nat} {lg la ls : Nat} {A A' : Arr} {ms : Ms} (h : AgH g lg la ls A) (hs : Sub g g5) (hs6 : Sub (hide g5 la ls) g6) (hh6 : ArrH g6 la ls A') (hn : g6 m = none) :
    Out g (upd g6 m (some (.cells (encM ms) .exact))) lg la ls A' (.slice (some ⟨m, 0, none⟩) 1 1) [ms] := by
  have hs7 := (Sub.refl g6).new hn (some (.cells (encM ms) .exact))
  have h5 := h.mono hs
  have n1 := ne_of_live hh6.obj hn
  have n2 := ne_of_live hh6.row hn
  refine ⟨((hide_mono hs).trans hs6).trans hs7, (h5.next hs6 hh6).mono hs7, Sl.one (encM_len _) (upd_same _ _ _), fun l hl => ?_⟩
  cases hl
  cases hgm : g m with
  | none => rfl
  | some b =>
    have := hs6.live (hide_live n1 n2 (hs.live hgm))
    rw [hn] at this; cases this

def outM (s : St) : Ms := ⟨3, s.line, decide (s.state = 3), false, if s.state = 3 then s.data else zeroL⟩
def outSt (s : St) : Int := if s.state = 3 then 9 else 7
def Arr.out (A : Arr) (s : St) : List Ms × Arr := ([outM s], (A.set s.line (outSt s) s.data).2)
theorem out_spec {A : Arr} {lg la ls : Nat} {s : St} (hok : A.ok) (hu : A.used < 100000) (hh : AgH g lg la ls A) {K : Cont} (hK : ∀ v' g' n', Out g g' lg la ls (A.out s).2 v' (A.out s).1 → K v' g' n') :
    AC agent_Agent_out_id [ptr lg 0, .agg (encS s).toArray] g n K := by
  refine ACalls.fold X0_mono ?_
  rw [← agent_Agent_out_eq]
  simp only [agent_Agent_out, kAgg_a]
  intro hn
  have hs1 := (Sub.refl g).new hn (some (.cells (encS s) .exact))
  have hl3 := upd_same g n (some (.cells (encS s) .exact))
  generalize upd g n (some (.cells (encS s) .exact)) = g1 at *
  refine ldS1 hl3 (kFill_m2 (newM (fun g3 hs3 hn5 hl5 => ?_)))
  have hsg := hs1.trans hs3
  have hl3' := hs3.live hl3
  have hne : n + 1 ≠ n := by omega
  have j1 : ∀ (t : Env) (g5 : G) (n5 : Nat), Sub g g5 → g5 n = some (.cells (encS s) .exact) → g5 (n + 1) = some (.cells (encM (outM s)) .exact) → t 0 = ptr lg 0 → t 3 = ptr n 0 → t 5 = ptr (n + 1) 0 → t 6 = .int .i64 (outSt s) → agent_Agent_out_j1 AC K t g5 n5 := by
    intro t g5 n5 hs5 hl3 hl5 t0 t3 t5 t6
    have hh5 := hh.mono hs5
    simp only [agent_Agent_out_j1, t0, t3, t5, t6, kNil_p, kPtr_p]
    refine ldA hh5 (ldS1 hl3 (ldSd hl3 ?_))
    refine Set_spec (d := s.data) hok hu hh5.arr (fun g6 n6 hs6 hh6 => ?_)
    have hla := ne_of_live hh.arr.obj (hs1.none hn5)
    have hls := ne_of_live hh.arr.row (hs1.none hn5)
    refine ldM (hs6.live (hide_live hla hls hl5)) (kFill_M ?_)
    intro hn7
    exact aRet_of (Sub.refl _) (hK _ _ _ (Out.one hh hs5 hs6 hh6 hn7))
  refine ldS0 hl3' ?_
  simp only [kBin_eql, kSplit_b, decide_eq_true_eq, decide_eq_false_iff_not]
  have hng : g (n + 1) = none := hs1.none hn5
  refine ⟨fun h3 => ?_, fun h3 => ?_⟩
  · refine ldSd hl3' ?_
    refine kSt_of hl5 rfl (by rw [encM_len]; decide) rfl ?_
    refine ⟨upd_ne _ _ (fun e => hne e.symm), encL_len _, ?_⟩
    refine stMd (m := ⟨3, s.line, true, false, zeroL⟩) (upd_same _ _ _) ?_
    refine j1 _ _ _ ((hsg.upd_fresh _ hng).upd_fresh _ hng) ?_ ?_ rfl rfl rfl ?_
    · rw [upd_ne _ _ (fun e => hne e.symm), upd_ne _ _ (fun e => hne e.symm)]; exact hl3'
    · rw [upd_same]; unfold outM; rw [decide_eq_true h3, if_pos h3]
    · unfold outSt; rw [if_pos h3]; rfl
  · refine j1 _ _ _ hsg hl3' ?_ rfl rfl rfl ?_
    · rw [hl5]; unfold outM; rw [decide_eq_false h3, if_neg h3]
    · unfold outSt; rw [if_neg h3]; rfl

def Arr.ask (A : Arr) (line state kind : Int) (d : Ln) : List Ms × Arr :=
  if A.idle = false then ([], A) else
  if state ≠ 6 ∧ (A.room line).1 = false then (if (A.room line).2 < 0 then ([], A) else A.out (A.slot (A.room line).2))
  else ([⟨kind, line, false, false, zeroL⟩], (A.set line state d).2)
theorem ask_spec {A : Arr} {lg la ls : Nat} {line state kind : Int} {d : Ln} (hok : A.ok) (hu : A.used < 100000) (hh : AgH g lg la ls A) {K : Cont}
    (hK : ∀ v' g' n', Out g g' lg la ls (A.ask line state kind d).2 v' (A.ask line state kind d).1 → K v' g' n') :
    AC agent_Agent_ask_id [ptr lg 0, .int .i64 line, .int .i64 state, .int .i64 kind, .agg (encL d).toArray] g n K := by
  refine ACalls.fold X0_mono ?_
  rw [← agent_Agent_ask_eq]
  simp only [agent_Agent_ask, kAgg_a]
  intro hn
  have hs1 := (Sub.refl g).new hn (some (.cells (encL d) .exact))
  have hl9 := upd_same g n (some (.cells (encL d) .exact))
  generalize upd g n (some (.cells (encL d) .exact)) = g1 at *
  have hh1 := hh.mono hs1
  refine Idle_spec hok hh1 (fun n2 => ?_)
  simp only [kUn_not, kSplit_b, Bool.not_eq_true', Bool.not_eq_false']
  refine ⟨fun hi => ?_, fun hi => ?_⟩
  · have e : A.ask line state kind d = ([], A) := by unfold Arr.ask; rw [if_pos hi]
    rw [e] at hK
    exact aRet_of (Sub.refl _) (hK _ _ _ ((Out.nil hh1).of hs1))
  have hi' : ¬ A.idle = false := by rw [hi]; decide
  have j1 : ∀ (t : Env) (m : Nat), ¬ (state ≠ 6 ∧ (A.room line).1 = false) → t 0 = ptr lg 0 → t 1 = .int .i64 line → t 2 = .int .i64 state → t 3 = .int .i64 kind → t 9 = ptr n 0 → agent_Agent_ask_j1 AC K t g1 m := by
    intro t m hc t0 t1 t2 t3 t9
    have e : A.ask line state kind d = ([⟨kind, line, false, false, zeroL⟩], (A.set line state d).2) := by unfold Arr.ask; rw [if_neg hi', if_neg hc]
    rw [e] at hK
    simp only [agent_Agent_ask_j1, t0, t1, t2, t3, t9, kNil_p, kPtr_p]
    refine ldA hh1 (ldL hl9 ?_)
    refine Set_spec (d := d) hok hu hh1.arr (fun g6 n6 hs6 hh6 => kFill_m2 (kFill_M ?_))
    intro hn7
    exact aRet_of (Sub.refl _) (hK _ _ _ (Out.one hh hs1 hs6 hh6 hn7))
  simp only [kBin_neq, kSplit_b, decide_eq_true_eq, decide_eq_false_iff_not]
  refine ⟨fun h6 => ?_, fun h6 => j1 _ _ (fun h => h6 h.1) rfl rfl rfl rfl rfl⟩
  simp only [kNil_p, kPtr_p]
  refine ldA hh1 (Room_spec hok hh1.arr (fun n3 => ?_))
  simp only [kExtract_t, kGet_zero, kGet_succ, kUn_not, kSplit_b, Bool.not_eq_true', Bool.not_eq_false', kBin_lss, decide_eq_true_eq, decide_eq_false_iff_not]
  refine ⟨fun hf => ⟨fun hv => ?_, fun hv => ⟨fun _ => ?_, fun h => (by rw [hf] at h; cases h)⟩⟩, fun hf => ⟨fun h => (by rw [hf] at h; cases h), fun _ => j1 _ _ (fun h => (by rw [hf] at h; exact absurd h.2 (by decide))) rfl rfl rfl rfl rfl⟩⟩
  · have e : A.ask line state kind d = ([], A) := by unfold Arr.ask; rw [if_neg hi', if_pos ⟨h6, hf⟩, if_pos hv]
    rw [e] at hK
    exact aRet_of (Sub.refl _) (hK _ _ _ ((Out.nil hh1).of hs1))
  · have e : A.ask line state kind d = A.out (A.slot (A.room line).2) := by unfold Arr.ask; rw [if_neg hi', if_pos ⟨h6, hf⟩, if_neg hv]
    rw [e] at hK
    refine find_spec hok hh1 (fun n4 => ?_)
    exact out_spec hok hu hh1 (fun v' g' n' ho => aRet_of (Sub.refl _) (hK _ _ _ (ho.of hs1)))
end Go.Proofs.YtjpckcikmfihlaaGreat.Gen

namespace Go.Proofs.YtjpckcikmfihlaaGreat.Gen
open Go Go.Proofs.YtjpckcikmfihlaaGreat.Abs Go.RowKit
variable {g : G} {n : Nat}
def wordAt (d : Ln) (w : Int) : Int := d.1.getD w.toNat 0
theorem encS_w (s : St) {w : Nat} (hw : w < 8) : (encS s)[2 + w]? = some (.int .u64 (s.data.1.getD w 0)) := by
  have h1 : ((encS s).drop 2).take 8 = encL s.data := encS_data s
  have h2 : (((encS s).drop 2).take 8)[w]? = (encS s)[2 + w]? := by rw [List.getElem?_take, if_pos hw, List.getElem?_drop]
  rw [← h2, h1]
  have h3 := s.data.2
  unfold encL
  rw [List.getElem?_map, List.getElem?_eq_getElem (by omega), List.getD_eq_getElem?_getD, List.getElem?_eq_getElem (by omega)]
  rfl
def hitB (s : St) : Bool := decide (s.state = 1 ∨ s.state = 2 ∨ s.state = 3 ∨ s.state = 6)
def Arr.loadHit (A : Arr) (line word : Int) : Bool := isW line word && hitB (A.slot line)
def Arr.loadV (A : Arr) (line word : Int) : Int := if A.loadHit line word then wordAt (A.slot line).data word else 0
def Arr.load (A : Arr) (line word : Int) : List Ms × Arr :=
  if isW line word = false then ([], A) else if A.loadHit line word then ([], A.touch line) else A.ask line 4 1 zeroL
theorem Load_spec {A : Arr} {lg la ls : Nat} {line word : Int} (hok : A.ok) (hu : A.used < 100000) (hh : AgH g lg la ls A) {K : Cont}
    (hK : ∀ v' g' n', Out g g' lg la ls (A.load line word).2 v' (A.load line word).1 → K (.tuple #[.int .u64 (A.loadV line word), .bool (A.loadHit line word), v']) g' n') :
    AC agent_Agent_Load_id [ptr lg 0, .int .i64 line, .int .i64 word] g n K := by
  refine ACalls.fold X0_mono ?_
  rw [← agent_Agent_Load_eq]
  simp only [agent_Agent_Load, kBin_p_eql]
  refine kSplit_f rfl (is_spec (fun n1 => ?_))
  simp only [kUn_not, kSplit_b, Bool.not_eq_true', Bool.not_eq_false']
  refine ⟨fun hi => ?_, fun hi => ?_⟩
  · have e0 : A.loadHit line word = false := by unfold Arr.loadHit; rw [hi]; rfl
    have e1 : A.loadV line word = 0 := by unfold Arr.loadV; rw [e0]; rfl
    have e2 : A.load line word = ([], A) := by unfold Arr.load; rw [if_pos hi]
    rw [e0, e1, e2] at hK
    exact aRet_of (Sub.refl _) (hK _ _ _ (Out.nil hh))
  have hw : 0 ≤ word ∧ word < 8 := by
    have := of_decide_eq_true (show isW line word = true from hi); omega
  refine find_spec hok hh (fun n2 => newS (s := A.slot line) (fun g4 hs4 hn4 hl9 => ?_))
  have hh4 := hh.mono hs4
  have j2 : ∀ (t : Env) (m : Nat), hitB (A.slot line) = false → t 0 = ptr lg 0 → t 1 = .int .i64 line → agent_Agent_Load_j2 AC K t g4 m := by
    intro t m hb t0 t1
    have e0 : A.loadHit line word = false := by unfold Arr.loadHit; rw [hb, Bool.and_false]
    have e1 : A.loadV line word = 0 := by unfold Arr.loadV; rw [e0]; rfl
    have e2 : A.load line word = A.ask line 4 1 zeroL := by unfold Arr.load; rw [if_neg (by rw [hi]; decide), e0]; rfl
    rw [e0, e1, e2] at hK
    simp only [agent_Agent_Load_j2, t0, t1, kFill_nil]
    exact ask_spec (d := zeroL) hok hu hh4 (fun v' g' n' ho => aRet_of (Sub.refl _) (hK _ _ _ (ho.of hs4)))
  have j1 : ∀ (t : Env) (m : Nat), t 23 = .bool (hitB (A.slot line)) → t 0 = ptr lg 0 → t 1 = .int .i64 line → t 2 = .int .i64 word → t 9 = ptr n2 0 → agent_Agent_Load_j1 AC K t g4 m := by
    intro t m t23 t0 t1 t2 t9
    simp only [agent_Agent_Load_j1, t23, t0, t1, t2, t9, kSplit_b, kNil_p, kPtr_p]
    refine ⟨fun hb => ?_, fun hb => j2 _ _ hb t0 t1⟩
    have e0 : A.loadHit line word = true := by unfold Arr.loadHit; rw [hb, hi]; rfl
    have e1 : A.loadV line word = wordAt (A.slot line).data word := by unfold Arr.loadV; rw [e0]; rfl
    have e2 : A.load line word = ([], A.touch line) := by unfold Arr.load; rw [if_neg (by rw [hi]; decide), e0]; rfl
    rw [e0, e1, e2] at hK
    refine ldA hh4 (Touch_spec hok hu hh4.arr (fun g5 n5 hs5 hh5 => ?_))
    refine ⟨hw.1, hw.2, ?_⟩
    simp only [kPtr_p]
    have hl9' := hs5.live (hide_live (ne_of_live hh.arr.obj hn4) (ne_of_live hh.arr.row hn4) hl9)
    refine kLd_of hl9' (v := .int .u64 (wordAt (A.slot line).data word)) ?_ ?_
    · rw [show 0 + 2 + word.toNat * 1 = 2 + word.toNat by omega]
      exact encS_w _ (by omega)
    · refine aRet_of (Sub.refl _) (hK _ _ _ ?_)
      exact ⟨(hide_mono hs4).trans hs5, hh4.next hs5 hh5, Sl.nil, fun l hl => nomatch hl⟩
  refine ldS0 hl9 ?_
  simp only [kBin_eql, kSplit_b, decide_eq_true_eq, decide_eq_false_iff_not]
  have hb : ∀ {p : Prop} [Decidable p], (p ↔ hitB (A.slot line) = true) → decide p = hitB (A.slot line) := fun h => by rw [Bool.eq_iff_iff, decide_eq_true_eq]; exact h
  have hit : hitB (A.slot line) = true ↔ (A.slot line).state = 1 ∨ (A.slot line).state = 2 ∨ (A.slot line).state = 3 ∨ (A.slot line).state = 6 := by unfold hitB; rw [decide_eq_true_eq]
  refine ⟨fun h1 => j1 _ _ ?_ rfl rfl rfl rfl, fun h1 => ⟨fun h2 => j1 _ _ ?_ rfl rfl rfl rfl, fun h2 => ⟨fun h3 => j1 _ _ ?_ rfl rfl rfl rfl, fun h3 => j1 _ _ ?_ rfl rfl rfl rfl⟩⟩⟩
  · show Value.bool (decide _) = _
    rw [hb (by rw [hit]; omega)]
  · show Value.bool (decide _) = _
    rw [hb (by rw [hit]; omega)]
  · show Value.bool (decide _) = _
    rw [hb (by rw [hit]; omega)]
  · show Value.bool (decide _) = _
    rw [hb (by rw [hit]; omega)]

def Arr.reach (A : Arr) (line : Int) : List Ms × Arr :=
  if isW line 0 = false ∨ A.owns line = true then ([], A) else
  if (A.slot line).state = 1 then A.ask line 6 2 (A.slot line).data else A.ask line 5 2 zeroL
theorem Reach_spec {A : Arr} {lg la ls : Nat} {line : Int} (hok : A.ok) (hu : A.used < 100000) (hh : AgH g lg la ls A) {K : Cont}
    (hK : ∀ v' g' n', Out g g' lg la ls (A.reach line).2 v' (A.reach line).1 → K v' g' n') :
    AC agent_Agent_Reach_id [ptr lg 0, .int .i64 line] g n K := by
  refine ACalls.fold X0_mono ?_
  rw [← agent_Agent_Reach_eq]
  simp only [agent_Agent_Reach, kBin_p_eql]
  refine kSplit_f rfl (is_spec (fun n1 => ?_))
  simp only [kUn_not, kSplit_b, Bool.not_eq_true', Bool.not_eq_false']
  refine ⟨fun hi => ?_, fun hi => Owns_spec hok hh (fun n2 => ?_)⟩
  · have e : A.reach line = ([], A) := by unfold Arr.reach; rw [if_pos (.inl hi)]
    rw [e] at hK
    exact aRet_of (Sub.refl _) (hK _ _ _ (Out.nil hh))
  simp only [kSplit_b]
  refine ⟨fun ho => ?_, fun ho => ?_⟩
  · have e : A.reach line = ([], A) := by unfold Arr.reach; rw [if_pos (.inr ho)]
    rw [e] at hK
    exact aRet_of (Sub.refl _) (hK _ _ _ (Out.nil hh))
  have hc : ¬ (isW line 0 = false ∨ A.owns line = true) := by rw [hi, ho]; decide
  refine find_spec hok hh (fun n3 => newS (s := A.slot line) (fun g4 hs4 hn4 hl => ?_))
  have hh4 := hh.mono hs4
  refine ldS0 hl ?_
  simp only [kBin_eql, kSplit_b, decide_eq_true_eq, decide_eq_false_iff_not]
  refine ⟨fun h1 => ?_, fun h1 => ?_⟩
  · have e : A.reach line = A.ask line 6 2 (A.slot line).data := by unfold Arr.reach; rw [if_neg hc, if_pos h1]
    rw [e] at hK
    refine ldSd hl ?_
    exact ask_spec (d := (A.slot line).data) hok hu hh4 (fun v' g' n' ho => aRet_of (Sub.refl _) (hK _ _ _ (ho.of hs4)))
  · have e : A.reach line = A.ask line 5 2 zeroL := by unfold Arr.reach; rw [if_neg hc, if_neg h1]
    rw [e] at hK
    simp only [kFill_nil]
    exact ask_spec (d := zeroL) hok hu hh4 (fun v' g' n' ho => aRet_of (Sub.refl _) (hK _ _ _ (ho.of hs4)))

def Arr.storeHit (A : Arr) (line word : Int) : Bool := isW line word && A.owns line
def Arr.store (A : Arr) (line word v : Int) : List Ms × Arr :=
  if isW line word = false then ([], A) else if A.owns line = false then A.reach line else ([], (A.set line 3 ((A.slot line).data.put word.toNat v)).2)
theorem stSw {l : Nat} {s : St} {w : Int} {v : Int} {K : Value → Nat → Nat → G → Prop} (hw : 0 ≤ w ∧ w < 8) (h : g l = some (.cells (encS s) .exact))
    (k : ∀ p l' o, K p l' o (upd g l (some (.cells (encS { s with data := s.data.put w.toNat v }) .exact)))) :
    kIndexArr (ptr l (0 + 2)) (.int .i64 w) 8 1 fun p => kPtr p fun l' o => kSt g l' o (.int .u64 v) (K p l' o) := by
  refine ⟨hw.1, hw.2, ?_⟩
  simp only [kPtr_p]
  refine kSt_of h rfl (by rw [encS_len]; omega) rfl ?_
  have e : (encS s).set (0 + 2 + w.toNat * 1) (.int .u64 v) = encS { s with data := s.data.put w.toNat v } := by
    rw [show 0 + 2 + w.toNat * 1 = w.toNat + 2 by omega]
    show ([_, _] ++ encL s.data ++ [_]).set (w.toNat + 2) _ = [_, _] ++ encL (s.data.put w.toNat v) ++ [_]
    have h8 := s.data.2
    have e1 : (encL s.data).set w.toNat (.int .u64 v) = encL (s.data.put w.toNat v) := by simp [encL, Ln.put, List.map_set]
    rw [← e1]
    simp only [List.cons_append, List.nil_append, List.set_cons_succ]
    rw [List.set_append, if_pos (by rw [encL_len]; omega)]
  rw [e]
  exact k _ _ _
theorem Store_spec {A : Arr} {lg la ls : Nat} {line word v : Int} (hok : A.ok) (hu : A.used < 100000) (hh : AgH g lg la ls A) {K : Cont}
    (hK : ∀ v' g' n', Out g g' lg la ls (A.store line word v).2 v' (A.store line word v).1 → K (.tuple #[.bool (A.storeHit line word), v']) g' n') :
    AC agent_Agent_Store_id [ptr lg 0, .int .i64 line, .int .i64 word, .int .u64 v] g n K := by
  refine ACalls.fold X0_mono ?_
  rw [← agent_Agent_Store_eq]
  simp only [agent_Agent_Store, kBin_p_eql]
  refine kSplit_f rfl (is_spec (fun n1 => ?_))
  simp only [kUn_not, kSplit_b, Bool.not_eq_true', Bool.not_eq_false']
  refine ⟨fun hi => ?_, fun hi => ?_⟩
  · have e0 : A.storeHit line word = false := by unfold Arr.storeHit; rw [hi]; rfl
    have e : A.store line word v = ([], A) := by unfold Arr.store; rw [if_pos hi]
    rw [e0, e] at hK
    exact aRet_of (Sub.refl _) (hK _ _ _ (Out.nil hh))
  have hw : 0 ≤ word ∧ word < 8 := by
    have := of_decide_eq_true (show isW line word = true from hi); omega
  have hi' : ¬ isW line word = false := by rw [hi]; decide
  refine Owns_spec hok hh (fun n2 => ?_)
  simp only [kUn_not, kSplit_b, Bool.not_eq_true', Bool.not_eq_false']
  refine ⟨fun ho => ?_, fun ho => ?_⟩
  · have e0 : A.storeHit line word = false := by unfold Arr.storeHit; rw [ho, Bool.and_false]
    have e : A.store line word v = A.reach line := by unfold Arr.store; rw [if_neg hi', if_pos ho]
    rw [e0, e] at hK
    exact Reach_spec hok hu hh (fun v' g' n' h => aRet_of (Sub.refl _) (hK _ _ _ h))
  · have e0 : A.storeHit line word = true := by unfold Arr.storeHit; rw [ho, hi]; rfl
    have e : A.store line word v = ([], (A.set line 3 ((A.slot line).data.put word.toNat v)).2) := by unfold Arr.store; rw [if_neg hi', if_neg (by rw [ho]; decide)]
    rw [e0, e] at hK
    refine find_spec hok hh (fun n3 => newS (s := A.slot line) (fun g4 hs4 hn4 hl => ?_))
    refine stSw hw hl (fun _ _ _ => ?_)
    have hs7 := hs4.upd_fresh (some (.cells (encS { A.slot line with data := (A.slot line).data.put word.toNat v }) .exact)) hn4
    have hl7 := upd_same g4 n3 (some (.cells (encS { A.slot line with data := (A.slot line).data.put word.toNat v }) .exact))
    generalize upd g4 n3 (some (.cells (encS { A.slot line with data := (A.slot line).data.put word.toNat v }) .exact)) = g7 at *
    have hh7 := hh.mono hs7
    simp only [kNil_p, kPtr_p]
    refine ldA hh7 (ldSd hl7 ?_)
    refine Set_spec (d := (A.slot line).data.put word.toNat v) hok hu hh7.arr (fun g8 n8 hs8 hh8 => ?_)
    refine aRet_of (Sub.refl _) (hK _ _ _ ?_)
    exact ⟨(hide_mono hs7).trans hs8, hh7.next hs8 hh8, Sl.nil, fun l hl => nomatch hl⟩
end Go.Proofs.YtjpckcikmfihlaaGreat.Gen

namespace Go.Proofs.YtjpckcikmfihlaaGreat.Gen
open Go Go.Proofs.YtjpckcikmfihlaaGreat.Abs Go.RowKit
variable {g : G} {n : Nat}
def mayL : List Int := [0, 0, 0, 1, 0, 0, 1, 3, 4, 4, 4, 0, 0, 0, 0]
def ints64 (l : List Int) : List Value := l.map (.int .i64 ·)
theorem may_spec {K : Cont} (hK : ∀ n', K (.agg (ints64 mayL).toArray) g n') : AC msg_may_id [] g n K :=
  AC_ev (.agg (ints64 mayL).toArray) 1000 100 (by kernel_rfl) (by kernel_rfl) (by kernel_rfl) hK
def turn (k s : Int) : Int :=
  if k = 14 then -2 else
  if k = 8 then (if s = 4 then 1 else -1) else
  if k = 9 then (if s = 4 then 2 else -1) else
  if k = 10 then (if s = 5 ∨ s = 6 then 2 else -1) else
  if k = 11 then (if 7 ≤ s then 0 else -1) else
  if k = 12 then (if 1 ≤ s ∧ s ≤ 3 then 0 else if s = 6 then 5 else if s = 7 ∨ s = 9 then 8 else -1) else
  if k = 13 then (if s = 2 ∨ s = 3 then 1 else if s = 7 ∨ s = 9 then 8 else -1) else -1
def turnRow (k : Nat) : List Int := (List.range 10).map fun (s : Nat) => turn (k : Int) (s : Int)
def turnsL : List Int := (List.range 15).flatMap turnRow
theorem turns_spec {K : Cont} (hK : ∀ n', K (.agg (ints64 turnsL).toArray) g n') : AC agent_turns_id [] g n K :=
  AC_ev (.agg (ints64 turnsL).toArray) 1000 100 (by kernel_rfl) (by kernel_rfl) (by kernel_rfl) hK
theorem turn_get : ∀ k : Fin 15, ∀ s : Fin 10, (((ints64 turnsL).drop (k.val * 10)).take 10)[s.val]? = some (.int .i64 (turn k.val s.val)) ∧ k.val * 10 + 10 ≤ (ints64 turnsL).length := by
  intro k s
  have h : ((turnsL.drop (k.val * 10)).take 10)[s.val]? = some (turn k.val s.val) ∧ k.val * 10 + 10 ≤ turnsL.length := by
    revert k s; decide +kernel
  unfold ints64
  rw [← List.map_drop, ← List.map_take, List.getElem?_map, h.1, List.length_map]
  exact ⟨rfl, h.2⟩
def goodM (m : Ms) : Bool := decide (1 ≤ m.kind ∧ m.kind ≤ 14 ∧ 0 ≤ m.line ∧ m.line < 64) && (!m.dirty || decide (m.kind = 3 ∨ m.kind = 6 ∨ m.kind = 7)) && (!m.kept || decide (m.kind = 7)) &&
  (m.dirty || decide (m.kind = 8 ∨ m.kind = 9 ∨ m.kind = 10) || decide (m.data = zeroL))
def tellsB (k : Int) : Bool := decide (8 ≤ k ∧ k ≤ 14)
theorem Tells_spec {x : Int} {K : Cont} (hK : ∀ n', K (.bool (tellsB x)) g n') : AC msg_Tells_id [.int .i64 x] g n K := by
  refine ACalls.fold X0_mono ?_
  rw [← msg_Tells_eq]
  unfold tellsB at hK
  simp only [msg_Tells, kBin_geq, kBin_leq, kSplit_b, decide_eq_true_eq, decide_eq_false_iff_not]
  refine ⟨fun h => aRet_of (Sub.refl _) ?_, fun h => aRet_of (Sub.refl _) ?_⟩
  · have k := hK n
    rw [show decide (8 ≤ x ∧ x ≤ 14) = decide (x ≤ 14) from by rw [decide_eq_decide]; omega] at k
    exact k
  · have k := hK n
    rw [decide_eq_false (by omega)] at k
    exact k
theorem ldM0 {l : Nat} {m : Ms} {bk : BK} {K : Value → Prop} (h : g l = some (.cells (encM m) bk)) (k : K (.int .i64 m.kind)) : kLd g l (0 + 0) K := kLd_of h rfl k
theorem ldM1 {l : Nat} {m : Ms} {bk : BK} {K : Value → Prop} (h : g l = some (.cells (encM m) bk)) (k : K (.int .i64 m.line)) : kLd g l (0 + 1) K := kLd_of h rfl k
theorem ldM2 {l : Nat} {m : Ms} {bk : BK} {K : Value → Prop} (h : g l = some (.cells (encM m) bk)) (k : K (.bool m.dirty)) : kLd g l (0 + 2) K := kLd_of h rfl k
theorem ldM3 {l : Nat} {m : Ms} {bk : BK} {K : Value → Prop} (h : g l = some (.cells (encM m) bk)) (k : K (.bool m.kept)) : kLd g l (0 + 3) K := kLd_of h rfl k
theorem mayIdx {k : Int} (h1 : 1 ≤ k) (h14 : k ≤ 14) {K : Value → Prop} (kk : ∀ b : Int, (b = (if k = 3 ∨ k = 6 then 1 else if k = 7 then 3 else if k = 8 ∨ k = 9 ∨ k = 10 then 4 else 0)) → K (.int .i64 b)) :
    kIdx (.agg (ints64 mayL).toArray) (.int .i64 k) 15 1 none K := by
  simp only [kIdx, kAgg_a, kInt_i, kPart]
  refine ⟨by omega, by omega, ?_⟩
  have : k = 1 ∨ k = 2 ∨ k = 3 ∨ k = 4 ∨ k = 5 ∨ k = 6 ∨ k = 7 ∨ k = 8 ∨ k = 9 ∨ k = 10 ∨ k = 11 ∨ k = 12 ∨ k = 13 ∨ k = 14 := by omega
  rcases this with rfl | rfl | rfl | rfl | rfl | rfl | rfl | rfl | rfl | rfl | rfl | rfl | rfl | rfl <;> exact kk _ (by decide)
theorem Good_spec {m : Ms} {K : Cont} (hK : ∀ n', K (.bool (goodM m)) g n') : AC msg_Good_id [.agg (encM m).toArray] g n K := by
  refine ACalls.fold X0_mono ?_
  rw [← msg_Good_eq]
  simp only [msg_Good, kAgg_a]
  intro hn
  have hs := (Sub.refl g).new hn (some (.cells (encM m) .exact))
  have hl := upd_same g n (some (.cells (encM m) .exact))
  generalize upd g n (some (.cells (encM m) .exact)) = g1 at *
  have no : ∀ n', goodM m = false → aRet K (.bool false) g1 n' := fun n' h => by
    have k := hK n'
    rw [h] at k
    exact aRet_of hs k
  have bad : ¬ (1 ≤ m.kind ∧ m.kind ≤ 14 ∧ 0 ≤ m.line ∧ m.line < 64) → goodM m = false := fun h => by unfold goodM; rw [decide_eq_false h]; rfl
  refine ldM0 hl ?_
  simp only [kBin_lss, kSplit_b, decide_eq_true_eq, decide_eq_false_iff_not]
  refine ⟨fun h => no _ (bad (by omega)), fun h1 => ldM0 hl ?_⟩
  simp only [kBin_gtr, kSplit_b, decide_eq_true_eq, decide_eq_false_iff_not]
  refine ⟨fun h => no _ (bad (by omega)), fun h2 => ldM1 hl ?_⟩
  simp only [kBin_lss, kSplit_b, decide_eq_true_eq, decide_eq_false_iff_not]
  refine ⟨fun h => no _ (bad (by omega)), fun h3 => ldM1 hl ?_⟩
  simp only [kBin_geq, kSplit_b, decide_eq_true_eq, decide_eq_false_iff_not]
  refine ⟨fun h => no _ (bad (by omega)), fun h4 => ldM0 hl ?_⟩
  refine may_spec (fun n2 => ⟨rfl, mayIdx (by omega) (by omega) (fun b hb => ?_)⟩)
  have ok : decide (1 ≤ m.kind ∧ m.kind ≤ 14 ∧ 0 ≤ m.line ∧ m.line < 64) = true := by rw [decide_eq_true_eq]; omega
  have bc : b = 0 ∨ b = 1 ∨ b = 3 ∨ b = 4 := by
    rw [hb]
    split
    · omega
    · split
      · omega
      · split <;> omega
  have and1 : ∀ {K' : Value → Prop}, K' (.int .i64 (if b = 1 ∨ b = 3 then 1 else 0)) → kBin .int .and (.int .i64 b) (.int .i64 1) K' := by
    intro K' k
    rcases bc with rfl | rfl | rfl | rfl <;> exact ⟨rfl, k⟩
  have and2 : ∀ {K' : Value → Prop}, K' (.int .i64 (if b = 3 then 2 else 0)) → kBin .int .and (.int .i64 b) (.int .i64 2) K' := by
    intro K' k
    rcases bc with rfl | rfl | rfl | rfl <;> exact ⟨rfl, k⟩
  have and4 : ∀ {K' : Value → Prop}, K' (.int .i64 (if b = 4 then 4 else 0)) → kBin .int .and (.int .i64 b) (.int .i64 4) K' := by
    intro K' k
    rcases bc with rfl | rfl | rfl | rfl <;> exact ⟨rfl, k⟩
  have i1 : (b = 1 ∨ b = 3) ↔ (m.kind = 3 ∨ m.kind = 6 ∨ m.kind = 7) := by
    rw [hb]
    split
    · omega
    · split
      · omega
      · split <;> omega
  have i2 : b = 3 ↔ m.kind = 7 := by
    rw [hb]
    split
    · omega
    · split
      · omega
      · split <;> omega
  have i4 : b = 4 ↔ (m.kind = 8 ∨ m.kind = 9 ∨ m.kind = 10) := by
    rw [hb]
    split
    · omega
    · split
      · omega
      · split <;> omega
  have j1 : ∀ (t : Env) (n' : Nat), (m.dirty = true → (m.kind = 3 ∨ m.kind = 6 ∨ m.kind = 7)) → (m.kept = true → m.kind = 7) → t 1 = ptr n 0 → t 3 = .int .i64 b → msg_Good_j1 AC K t g1 n' := by
    intro t n' hd hk t1 t3
    have eg : goodM m = (m.dirty || decide (m.kind = 8 ∨ m.kind = 9 ∨ m.kind = 10) || decide (m.data = zeroL)) := by
      unfold goodM
      rw [ok]
      have e1 : (!m.dirty || decide (m.kind = 3 ∨ m.kind = 6 ∨ m.kind = 7)) = true := by
        cases h : m.dirty with
        | false => rfl
        | true => rw [decide_eq_true (hd h)]; rfl
      have e2 : (!m.kept || decide (m.kind = 7)) = true := by
        cases h : m.kept with
        | false => rfl
        | true => rw [decide_eq_true (hk h)]; rfl
      rw [e1, e2]; rfl
    simp only [msg_Good_j1, t1, t3, kPtr_p]
    refine ldM2 hl ?_
    simp only [kSplit_b]
    refine ⟨fun h => aRet_of hs ?_, fun h => ?_⟩
    · have k := hK n'; rw [eg, h] at k; exact k
    refine and4 ?_
    simp only [kBin_neq, kSplit_b, decide_eq_true_eq, decide_eq_false_iff_not]
    refine ⟨fun h4' => aRet_of hs ?_, fun h4' => ?_⟩
    · have : b = 4 := Classical.byContradiction fun e => by rw [if_neg e] at h4'; exact absurd rfl h4'
      have k := hK n'
      rw [eg, h, decide_eq_true (i4.1 this)] at k; exact k
    · have : ¬ b = 4 := by intro e; rw [if_pos e] at h4'; exact h4' (by decide)
      refine ldMd hl ?_
      simp only [kFill_nil]
      refine eqL m.data zeroL _ (aRet_of hs ?_)
      have k := hK n'
      rw [eg, h, decide_eq_false (fun e => this (i4.2 e))] at k; exact k
  have kept : ∀ (t t2 : Env) (n' : Nat), (m.dirty = true → (m.kind = 3 ∨ m.kind = 6 ∨ m.kind = 7)) → True := fun _ _ _ _ => trivial
  refine ldM2 hl ?_
  simp only [kSplit_b]
  have badK : m.kept = true → b ≠ 3 → goodM m = false := fun h hb3 => by
    unfold goodM
    rw [h, decide_eq_false (fun e => hb3 (i2.2 e))]
    simp
  have z2 : ∀ x : Int, (if x = 3 then (2 : Int) else 0) = 0 ↔ x ≠ 3 := by intro x; by_cases e : x = 3 <;> simp [e]
  refine ⟨fun hd => ?_, fun hd => ?_⟩
  · refine and1 ?_
    simp only [kBin_eql, kSplit_b, decide_eq_true_eq, decide_eq_false_iff_not]
    refine ⟨fun h => ⟨fun _ => no _ ?_, fun h' => absurd h h'⟩, fun h => ?_⟩
    · have : ¬ (b = 1 ∨ b = 3) := by intro e; rw [if_pos e] at h; exact absurd h (by decide)
      unfold goodM
      rw [hd, decide_eq_false (fun e => this (i1.2 e))]
      simp
    · have hb1 : b = 1 ∨ b = 3 := Classical.byContradiction fun e => by rw [if_neg e] at h; exact absurd rfl h
      refine ldM3 hl ?_
      simp only [kSplit_b]
      refine ⟨fun hk => and2 ?_, fun hk => j1 _ _ (fun _ => i1.1 hb1) (fun h => by rw [hk] at h; cases h) rfl rfl⟩
      simp only [kBin_eql, kSplit_b, decide_eq_true_eq, decide_eq_false_iff_not]
      refine ⟨fun h => no _ (badK hk ((z2 b).1 h)), fun h => j1 _ _ (fun _ => i1.1 hb1) (fun _ => i2.1 (Classical.byContradiction fun e => absurd ((z2 b).2 e) h)) rfl rfl⟩
  · refine ldM3 hl ?_
    simp only [kSplit_b]
    refine ⟨fun hk => and2 ?_, fun hk => j1 _ _ (fun h => by rw [hd] at h; cases h) (fun h => by rw [hk] at h; cases h) rfl rfl⟩
    simp only [kBin_eql, kSplit_b, decide_eq_true_eq, decide_eq_false_iff_not]
    refine ⟨fun h => no _ (badK hk ((z2 b).1 h)), fun h => j1 _ _ (fun h => by rw [hd] at h; cases h) (fun _ => i2.1 (Classical.byContradiction fun e => absurd ((z2 b).2 e) h)) rfl rfl⟩
end Go.Proofs.YtjpckcikmfihlaaGreat.Gen

namespace Go.Proofs.YtjpckcikmfihlaaGreat.Gen
open Go Go.Proofs.YtjpckcikmfihlaaGreat.Abs Go.RowKit
variable {g : G} {n : Nat}
theorem newL {d : Ln} {K : Nat → G → Nat → Prop} (k : ∀ g2, Sub g g2 → g n = none → g2 n = some (.cells (encL d) .exact) → K n g2 (n + 1)) :
    kNew (encL zeroL) .exact g n fun l g1 n1 => kAgg (.agg (encL d).toArray) fun cg => cg.length = 8 ∧ kStN g1 l 0 cg fun g2 => K l g2 n1 := by
  intro hn
  simp only [kAgg_a]
  refine ⟨encL_len _, kStN_of (upd_same _ _ _) rfl (by rw [encL_len, encL_len]; decide) (encL_cell _) ?_⟩
  rw [splice_all (by rw [encL_len, encL_len])]
  exact k _ (((Sub.refl g).new hn _).upd_fresh _ hn) hn (upd_same _ _ _)
theorem stLn {l : Nat} {c d : Ln} {K : G → Prop} (h : g l = some (.cells (encL c) .exact)) (k : K (upd g l (some (.cells (encL d) .exact)))) : kStN g l 0 (encL d) K := by
  refine kStN_of h rfl (by rw [encL_len, encL_len]; decide) (encL_cell _) ?_
  rw [splice_all (by rw [encL_len, encL_len])]
  exact k
def dr (s : St) : Bool := decide (s.state = 3 ∨ s.state = 9)
def ansM (m : Ms) (s : St) (next : Int) : List Ms :=
  if m.kind = 12 then [⟨6, m.line, dr s, false, if dr s then s.data else zeroL⟩] else
  if m.kind = 13 then [⟨7, m.line, dr s, decide (next = 1), if dr s then s.data else zeroL⟩] else []
theorem answer_spec {m : Ms} {s : St} {next : Int} {K : Cont} (hK : ∀ v' g' n', Sub g g' → Sl encM 12 g' v' (ansM m s next) → (∀ l, blkOf v' = some l → g l = none) → K v' g' n') :
    AC agent_answer_id [.agg (encM m).toArray, .agg (encS s).toArray, .int .i64 next] g n K := by
  refine ACalls.fold X0_mono ?_
  rw [← agent_answer_eq]
  simp only [agent_answer, kAgg_a]
  intro hn
  have hs1 := (Sub.refl g).new hn (some (.cells (encM m) .exact))
  have hl3 := upd_same g n (some (.cells (encM m) .exact))
  generalize upd g n (some (.cells (encM m) .exact)) = g1 at *
  intro hn1
  have hs2 := (Sub.refl g1).new hn1 (some (.cells (encS s) .exact))
  have hl4 := upd_same g1 (n + 1) (some (.cells (encS s) .exact))
  generalize upd g1 (n + 1) (some (.cells (encS s) .exact)) = g2 at *
  refine ldM1 (hs2.live hl3) (kFill_m1 (newM (fun g4 hs4 hn7 hl7 => ?_)))
  have hsg := hs1.trans (hs2.trans hs4)
  have hn7g : g (n + 1 + 1) = none := (hs1.trans hs2).none hn7
  have hl4' := hs4.live hl4
  have j2 : ∀ (t : Env) (g5 : G) (n5 : Nat) (x : Ms), Sub g g5 → g5 (n + 1 + 1) = some (.cells (encM x) .exact) → ansM m s next = [x] → t 7 = ptr (n + 1 + 1) 0 → agent_answer_j2 AC K t g5 n5 := by
    intro t g5 n5 x hs5 hl hx t7
    simp only [agent_answer_j2, t7, kPtr_p]
    refine ldM hl (kFill_M ?_)
    intro hn6
    have hs6 := (Sub.refl g5).new hn6 (some (.cells (encM x) .exact))
    refine aRet_of (Sub.refl _) (hK _ _ _ (hs5.trans hs6) ?_ ?_)
    · rw [hx]; exact Sl.one (encM_len _) (upd_same _ _ _)
    · intro l hl; cases hl; exact hs5.none hn6
  have j1 : ∀ (t : Env) (g5 : G) (n5 : Nat) (x : Ms), Sub g g5 → g5 (n + 1) = some (.cells (encS s) .exact) → g5 (n + 1 + 1) = some (.cells (encM x) .exact) → x.dirty = false → x.data = zeroL →
      ansM m s next = [{ x with dirty := dr s, data := if dr s then s.data else zeroL }] → t 4 = ptr (n + 1) 0 → t 7 = ptr (n + 1 + 1) 0 → agent_answer_j1 AC K t g5 n5 := by
    intro t g5 n5 x hs5 h4 h7 hxd hxz hx t4 t7
    simp only [agent_answer_j1, t4, t7, kPtr_p]
    have yes : dr s = true → ∀ (t : Env) , t 7 = ptr (n + 1 + 1) 0 → agent_answer_j2 AC K t (upd (upd g5 (n + 1 + 1) (some (.cells ((encM x).set (0 + 2) (.bool true)) .exact))) (n + 1 + 1) (some (.cells (encM { { x with dirty := true } with data := s.data }) .exact))) n5 := by
      intro hd t t7
      refine j2 _ _ _ { { x with dirty := true } with data := s.data } ((hs5.upd_fresh _ hn7g).upd_fresh _ hn7g) (upd_same _ _ _) ?_ t7
      rw [hx, hd]; rfl
    have hne : n + 1 ≠ n + 1 + 1 := by omega
    refine ldS0 h4 ?_
    simp only [kBin_eql, kSplit_b, decide_eq_true_eq, decide_eq_false_iff_not]
    refine ⟨fun h3 => ?_, fun h3 => ldS0 h4 ?_⟩
    · refine ldSd h4 (kSt_of h7 rfl (by rw [encM_len]; decide) rfl ?_)
      refine ⟨upd_ne _ _ hne, encL_len _, ?_⟩
      refine stMd (m := { x with dirty := true }) (upd_same _ _ _) ?_
      exact yes (by unfold dr; rw [decide_eq_true_eq]; exact .inl h3) _ t7
    · simp only [kBin_eql, kSplit_b, decide_eq_true_eq, decide_eq_false_iff_not]
      refine ⟨fun h9 => ?_, fun h9 => ?_⟩
      · refine ldSd h4 (kSt_of h7 rfl (by rw [encM_len]; decide) rfl ?_)
        refine ⟨upd_ne _ _ hne, encL_len _, ?_⟩
        refine stMd (m := { x with dirty := true }) (upd_same _ _ _) ?_
        exact yes (by unfold dr; rw [decide_eq_true_eq]; exact .inr h9) _ t7
      · have hd : dr s = false := by unfold dr; rw [decide_eq_false_iff_not]; omega
        refine j2 _ _ _ x hs5 h7 ?_ t7
        rw [hx, hd]
        cases x
        simp only at hxd hxz
        subst hxd hxz
        rfl
  have hne1 : n + 1 ≠ n + 1 + 1 := by omega
  refine ldM0 (hs4.live (hs2.live hl3)) ?_
  simp only [kBin_eql, kSplit_b, decide_eq_true_eq, decide_eq_false_iff_not]
  refine ⟨fun h12 => ?_, fun h12 => ⟨fun h13 => ?_, fun h13 => ?_⟩⟩
  · refine kSt_of hl7 rfl (by rw [encM_len]; decide) rfl ?_
    refine j1 _ _ _ ⟨6, m.line, false, false, zeroL⟩ (hsg.upd_fresh _ hn7g) (by rw [upd_ne _ _ hne1]; exact hl4') (by rw [upd_same]; rfl) rfl rfl ?_ rfl rfl
    unfold ansM; rw [if_pos h12]
  · refine kSt_of hl7 rfl (by rw [encM_len]; decide) rfl ?_
    refine kSt_of (upd_same _ _ _) rfl (by simp [encM_len]) rfl ?_
    refine j1 _ _ _ ⟨7, m.line, false, decide (next = 1), zeroL⟩ ((hsg.upd_fresh _ hn7g).upd_fresh _ hn7g) (by rw [upd_ne _ _ hne1, upd_ne _ _ hne1]; exact hl4') (by rw [upd_same]; rfl) rfl rfl ?_ rfl rfl
    unfold ansM; rw [if_neg h12, if_pos h13]
  · have e : ansM m s next = [] := by unfold ansM; rw [if_neg h12, if_neg h13]
    rw [e] at hK
    exact aRet_of (Sub.refl _) (hK _ _ _ hsg Sl.nil (fun l hl => nomatch hl))

def hearD (m : Ms) (s : St) (next : Int) : Ln := if m.kind = 8 ∨ m.kind = 9 ∨ m.kind = 10 then m.data else if next = 5 ∨ next = 8 then zeroL else s.data
def Arr.hear (A : Arr) (m : Ms) : List Ms × Arr × Int :=
  if goodM m = false ∨ tellsB m.kind = false then ([], A, 1) else
  if turn m.kind (A.slot m.line).state = -1 then ([], A, 16) else
  if turn m.kind (A.slot m.line).state = -2 then ([], A, 0) else
  if turn m.kind (A.slot m.line).state = 0 then (ansM m (A.slot m.line) 0, A.drop m.line, 0) else
  (ansM m (A.slot m.line) (turn m.kind (A.slot m.line).state), (A.set m.line (turn m.kind (A.slot m.line).state) (hearD m (A.slot m.line) (turn m.kind (A.slot m.line).state))).2, 0)
theorem slot_state {A : Arr} (hok : A.ok) (hw : A.wf) (line : Int) : 0 ≤ (A.slot line).state ∧ (A.slot line).state ≤ 9 := by
  unfold Arr.slot Arr.find
  cases ha : A.at line with
  | none => exact ⟨by show (0 : Int) ≤ 0; decide, by show (0 : Int) ≤ 9; decide⟩
  | some k =>
    obtain ⟨t, ht, ht0, _, hst⟩ := Arr.at_some hok ha
    have := hw.place _ _ ht ht0
    show 0 ≤ (A.slotAt line k).state ∧ (A.slotAt line k).state ≤ 9
    rw [hst]; omega
theorem Hear_spec {A : Arr} {lg la ls : Nat} {m : Ms} (hok : A.ok) (hw : A.wf) (hu : A.used < 100000) (hh : AgH g lg la ls A) {K : Cont}
    (hK : ∀ v' g' n', Out g g' lg la ls (A.hear m).2.1 v' (A.hear m).1 → K (.tuple #[v', .int .i64 (A.hear m).2.2]) g' n') :
    AC agent_Agent_Hear_id [ptr lg 0, .agg (encM m).toArray] g n K := by
  refine ACalls.fold X0_mono ?_
  rw [← agent_Agent_Hear_eq]
  simp only [agent_Agent_Hear, kAgg_a]
  intro hn
  have hs1 := (Sub.refl g).new hn (some (.cells (encM m) .exact))
  have hl3 := upd_same g n (some (.cells (encM m) .exact))
  generalize upd g n (some (.cells (encM m) .exact)) = g1 at *
  have hh1 := hh.mono hs1
  simp only [kBin_p_eql]
  refine kSplit_f rfl (ldM hl3 (Good_spec (fun n2 => ?_)))
  simp only [kUn_not, kSplit_b, Bool.not_eq_true', Bool.not_eq_false']
  refine ⟨fun hg => ?_, fun hg => ldM0 hl3 (Tells_spec (fun n3 => ?_))⟩
  · have e : A.hear m = ([], A, 1) := by unfold Arr.hear; rw [if_pos (.inl hg)]
    rw [e] at hK
    exact aRet_of (Sub.refl _) (hK _ _ _ ((Out.nil hh1).of hs1))
  simp only [kUn_not, kSplit_b, Bool.not_eq_true', Bool.not_eq_false']
  refine ⟨fun ht => ?_, fun ht => ldM1 hl3 (find_spec hok hh1 (fun n4 => newS (s := A.slot m.line) (fun g6 hs6 hn6 hl6 => ?_)))⟩
  · have e : A.hear m = ([], A, 1) := by unfold Arr.hear; rw [if_pos (.inr ht)]
    rw [e] at hK
    exact aRet_of (Sub.refl _) (hK _ _ _ ((Out.nil hh1).of hs1))
  have hc : ¬ (goodM m = false ∨ tellsB m.kind = false) := by rw [hg, ht]; decide
  have hst := slot_state hok hw m.line
  have hkd : 8 ≤ m.kind ∧ m.kind ≤ 14 := of_decide_eq_true (show tellsB m.kind = true from ht)
  unfold Arr.hear at hK
  rw [if_neg hc] at hK
  generalize A.slot m.line = s at *
  refine ldM0 (hs6.live hl3) (ldS0 hl6 (turns_spec (fun n7 => ⟨rfl, rfl, ?_⟩)))
  have hidx := turn_get ⟨m.kind.toNat, by omega⟩ ⟨s.state.toNat, by omega⟩
  simp only at hidx
  rw [show ((m.kind.toNat : Nat) : Int) = m.kind by omega, show ((s.state.toNat : Nat) : Int) = s.state by omega] at hidx
  generalize turn m.kind s.state = next at *
  simp only [kIdx, kAgg_a, kInt_i, kPart]
  refine ⟨by omega, by omega, hidx.2, by omega, by omega, kGet_of (by rw [Nat.mul_one]; exact hidx.1) ?_⟩
  have hsg := hs1.trans hs6
  refine ldSd hl6 (newL (fun g9 hs9 hn8 hl8 => ?_))
  have hs9g := hsg.trans hs9
  have hl3' := hs9.live (hs6.live hl3)
  have hl6' := hs9.live hl6
  have hh9 := hh.mono hs9g
  have hn8g : g n7 = none := hsg.none hn8
  have h36 : n ≠ n4 := ne_of_live (hl3) hn6 |> fun h => fun e => h e.symm
  have h38 : n ≠ n7 := fun e => by rw [← e] at hn8; rw [hs6.live hl3] at hn8; cases hn8
  have h68 : n4 ≠ n7 := fun e => by rw [← e] at hn8; rw [hl6] at hn8; cases hn8
  have ap3 := And.intro (ne_of_live hh.arr.obj hn) (ne_of_live hh.arr.row hn)
  have ap6 := And.intro (ne_of_live hh1.arr.obj hn6) (ne_of_live hh1.arr.row hn6)
  have j4 : ∀ (t : Env) (g10 : G) (n10 : Nat), ¬ next = -1 → ¬ next = -2 → ¬ next = 0 → Sub g g10 → g10 n = some (.cells (encM m) .exact) → g10 n4 = some (.cells (encS s) .exact) → g10 n7 = some (.cells (encL (hearD m s next)) .exact) →
      t 0 = ptr lg 0 → t 3 = ptr n 0 → t 6 = ptr n4 0 → t 7 = .int .i64 next → t 8 = ptr n7 0 → agent_Agent_Hear_j4 AC K t g10 n10 := by
    intro t g10 n10 c1 c2 c3 hs10 hl3 hl6 hl8 t0 t3 t6 t7 t8
    rw [if_neg c1, if_neg c2, if_neg c3] at hK
    have hh10 := hh.mono hs10
    simp only [agent_Agent_Hear_j4, t0, t3, t6, t7, t8, kNil_p, kPtr_p]
    refine ldA hh10 (ldM1 hl3 (ldL hl8 ?_))
    refine Set_spec (d := hearD m s next) hok hu hh10.arr (fun g11 n11 hs11 hh11 => ?_)
    refine ldM (hs11.live (hide_live ap3.1 ap3.2 hl3)) (ldS (x := s) (hs11.live (hide_live ap6.1 ap6.2 hl6)) ?_)
    refine answer_spec (fun v' g' n' hs' hsl hfr => aRet_of (Sub.refl _) (hK _ _ _ ?_))
    refine ⟨((hide_mono hs10).trans hs11).trans hs', (hh10.next hs11 hh11).mono hs', hsl, fun l hl => ?_⟩
    have h1 := hfr l hl
    cases hgl : g l with
    | none => rfl
    | some b =>
      have n1 := ne_of_live hh11.obj h1
      have n2 := ne_of_live hh11.row h1
      have := hs11.live (hide_live n1 n2 (hs10.live hgl))
      rw [h1] at this; cases this
  have j3 : ∀ (t : Env) (g10 : G) (n10 : Nat) (c : Ln), ¬ next = -1 → ¬ next = -2 → ¬ next = 0 → Sub g g10 → g10 n = some (.cells (encM m) .exact) → g10 n4 = some (.cells (encS s) .exact) → g10 n7 = some (.cells (encL c) .exact) →
      (c = if next = 5 ∨ next = 8 then zeroL else s.data) → t 59 = .bool (decide (m.kind = 8 ∨ m.kind = 9 ∨ m.kind = 10)) → t 0 = ptr lg 0 → t 3 = ptr n 0 → t 6 = ptr n4 0 → t 7 = .int .i64 next → t 8 = ptr n7 0 → agent_Agent_Hear_j3 AC K t g10 n10 := by
    intro t g10 n10 c c1 c2 c3 hs10 hl3 hl6 hl8 hcc t59 t0 t3 t6 t7 t8
    simp only [agent_Agent_Hear_j3, t59, t3, t8, kSplit_b, decide_eq_true_eq, decide_eq_false_iff_not, kPtr_p]
    refine ⟨fun hk => ?_, fun hk => ?_⟩
    · refine ldMd hl3 ?_
      simp only [kAgg_a]
      refine ⟨encL_len _, stLn hl8 ?_⟩
      refine j4 _ _ _ c1 c2 c3 (hs10.upd_fresh _ hn8g) (by rw [upd_ne _ _ h38]; exact hl3) (by rw [upd_ne _ _ h68]; exact hl6) ?_ t0 t3 t6 t7 t8
      rw [upd_same]; unfold hearD; rw [if_pos hk]
    · refine j4 _ _ _ c1 c2 c3 hs10 hl3 hl6 ?_ t0 t3 t6 t7 t8
      rw [hl8]; unfold hearD; rw [if_neg hk, hcc]
  have j2 : ∀ (t : Env) (g10 : G) (n10 : Nat) (c : Ln), ¬ next = -1 → ¬ next = -2 → ¬ next = 0 → Sub g g10 → g10 n = some (.cells (encM m) .exact) → g10 n4 = some (.cells (encS s) .exact) → g10 n7 = some (.cells (encL c) .exact) →
      (c = if next = 5 ∨ next = 8 then zeroL else s.data) → t 0 = ptr lg 0 → t 3 = ptr n 0 → t 6 = ptr n4 0 → t 7 = .int .i64 next → t 8 = ptr n7 0 → agent_Agent_Hear_j2 AC K t g10 n10 := by
    intro t g10 n10 c c1 c2 c3 hs10 hl3 hl6 hl8 hcc t0 t3 t6 t7 t8
    simp only [agent_Agent_Hear_j2, t3, kPtr_p]
    refine ldM0 hl3 ?_
    simp only [kBin_eql, kSplit_b, decide_eq_true_eq, decide_eq_false_iff_not]
    have hb : ∀ {p : Prop} [Decidable p], (p ↔ (m.kind = 8 ∨ m.kind = 9 ∨ m.kind = 10)) → Value.bool (decide p) = .bool (decide (m.kind = 8 ∨ m.kind = 9 ∨ m.kind = 10)) := fun h => by congr 1; rw [decide_eq_decide]; exact h
    refine ⟨fun h8 => j3 _ _ _ c c1 c2 c3 hs10 hl3 hl6 hl8 hcc ?_ t0 t3 t6 t7 t8, fun h8 => ⟨fun h9 => j3 _ _ _ c c1 c2 c3 hs10 hl3 hl6 hl8 hcc ?_ t0 t3 t6 t7 t8, fun h9 => j3 _ _ _ c c1 c2 c3 hs10 hl3 hl6 hl8 hcc ?_ t0 t3 t6 t7 t8⟩⟩
    · exact hb (by omega)
    · exact hb (by omega)
    · exact hb (by omega)
  have j1 : ∀ (t : Env) (n10 : Nat), ¬ next = -1 → ¬ next = -2 → ¬ next = 0 → t 53 = .bool (decide (next = 5 ∨ next = 8)) → t 0 = ptr lg 0 → t 3 = ptr n 0 → t 6 = ptr n4 0 → t 7 = .int .i64 next → t 8 = ptr n7 0 → agent_Agent_Hear_j1 AC K t g9 n10 := by
    intro t n10 c1 c2 c3 t53 t0 t3 t6 t7 t8
    simp only [agent_Agent_Hear_j1, t53, t8, kSplit_b, decide_eq_true_eq, decide_eq_false_iff_not, kFill_nil, kPtr_p, kAgg_a]
    refine ⟨fun h5 => ⟨rfl, stLn (d := zeroL) hl8 ?_⟩, fun h5 => ?_⟩
    · exact j2 _ _ _ zeroL c1 c2 c3 (hs9g.upd_fresh _ hn8g) (by rw [upd_ne _ _ h38]; exact hl3') (by rw [upd_ne _ _ h68]; exact hl6') (upd_same _ _ _) (by rw [if_pos h5]) t0 t3 t6 t7 t8
    · exact j2 _ _ _ s.data c1 c2 c3 hs9g hl3' hl6' hl8 (by rw [if_neg h5]) t0 t3 t6 t7 t8
  simp only [kBin_eql, kSplit_b, decide_eq_true_eq, decide_eq_false_iff_not]
  refine ⟨fun c1 => ?_, fun c1 => ⟨fun c2 => ?_, fun c2 => ⟨fun c3 => ?_, fun c3 => ?_⟩⟩⟩
  · rw [if_pos c1] at hK
    exact aRet_of (Sub.refl _) (hK _ _ _ ((Out.nil hh9).of hs9g))
  · rw [if_neg c1, if_pos c2] at hK
    exact aRet_of (Sub.refl _) (hK _ _ _ ((Out.nil hh9).of hs9g))
  · rw [if_neg c1, if_neg c2, if_pos c3] at hK
    subst c3
    simp only [kNil_p, kPtr_p]
    refine ldA hh9 (ldM1 hl3' ?_)
    refine Drop_spec hok hh9.arr (fun g10 n10 hs10 hh10 => ?_)
    refine ldM (hs10.live (hide_live ap3.1 ap3.2 hl3')) (ldS (x := s) (hs10.live (hide_live ap6.1 ap6.2 hl6')) ?_)
    refine answer_spec (fun v' g' n' hs' hsl hfr => aRet_of (Sub.refl _) (hK _ _ _ ?_))
    refine ⟨((hide_mono hs9g).trans hs10).trans hs', (hh9.next hs10 hh10).mono hs', hsl, fun l hl => ?_⟩
    have h1 := hfr l hl
    cases hgl : g l with
    | none => rfl
    | some b =>
      have n1 := ne_of_live hh10.obj h1
      have n2 := ne_of_live hh10.row h1
      have := hs10.live (hide_live n1 n2 (hs9g.live hgl))
      rw [h1] at this; cases this
  · refine ⟨fun h5 => j1 _ _ c1 c2 c3 ?_ rfl rfl rfl rfl rfl, fun h5 => j1 _ _ c1 c2 c3 ?_ rfl rfl rfl rfl rfl⟩
    · show Value.bool (decide (next = 5)) = _
      congr 1; rw [decide_eq_decide]; omega
    · show Value.bool (decide (next = 8)) = _
      congr 1; rw [decide_eq_decide]; omega

def Arr.evict (A : Arr) (line : Int) : List Ms × Arr × Int :=
  if A.idle = false then ([], A, 15) else if (A.slot line).state = 0 then ([], A, 14) else ((A.out (A.slot line)).1, (A.out (A.slot line)).2, 0)
theorem Evict_spec {A : Arr} {lg la ls : Nat} {line : Int} (hok : A.ok) (hu : A.used < 100000) (hh : AgH g lg la ls A) {K : Cont}
    (hK : ∀ v' g' n', Out g g' lg la ls (A.evict line).2.1 v' (A.evict line).1 → K (.tuple #[v', .int .i64 (A.evict line).2.2]) g' n') :
    AC agent_Agent_Evict_id [ptr lg 0, .int .i64 line] g n K := by
  refine ACalls.fold X0_mono ?_
  rw [← agent_Agent_Evict_eq]
  simp only [agent_Agent_Evict, kBin_p_eql]
  refine kSplit_f rfl (Idle_spec hok hh (fun n1 => ?_))
  simp only [kUn_not, kSplit_b, Bool.not_eq_true', Bool.not_eq_false']
  refine ⟨fun hi => ?_, fun hi => find_spec hok hh (fun n2 => newS (s := A.slot line) (fun g4 hs4 hn4 hl => ldS0 hl ?_))⟩
  · have e : A.evict line = ([], A, 15) := by unfold Arr.evict; rw [if_pos hi]
    rw [e] at hK
    exact aRet_of (Sub.refl _) (hK _ _ _ (Out.nil hh))
  have hi' : ¬ A.idle = false := by rw [hi]; decide
  have hh4 := hh.mono hs4
  simp only [kBin_eql, kSplit_b, decide_eq_true_eq, decide_eq_false_iff_not]
  refine ⟨fun h0 => ?_, fun h0 => ldS (x := A.slot line) hl ?_⟩
  · have e : A.evict line = ([], A, 14) := by unfold Arr.evict; rw [if_neg hi', if_pos h0]
    rw [e] at hK
    exact aRet_of (Sub.refl _) (hK _ _ _ ((Out.nil hh4).of hs4))
  · have e : A.evict line = ((A.out (A.slot line)).1, (A.out (A.slot line)).2, 0) := by unfold Arr.evict; rw [if_neg hi', if_neg h0]
    rw [e] at hK
    exact out_spec hok hu hh4 (fun v' g' n' ho => aRet_of (Sub.refl _) (hK _ _ _ (ho.of hs4)))
theorem AgNew_spec {s w : Int} {K : Cont} (hgood : goodA s w) (hK : ∀ lg la ls g' n', Sub g g' → g lg = none → g la = none → g ls = none → AgH g' lg la ls (arr0 s.toNat w.toNat) → K (.tuple #[ptr lg 0, .int .i64 0]) g' n') : AC agent_New_id [.int .i64 s, .int .i64 w] g n K := by
  refine ACalls.fold X0_mono ?_
  rw [← agent_New_eq]
  simp only [agent_New]
  refine New_spec (fun h => absurd hgood h) (fun _ la ls g1 n1 hs1 hla hls hh => ?_)
  simp only [kExtract_t, kGet_zero, kGet_succ, kBin_neq]
  refine kSplit_f (by simp) ?_
  refine ⟨rfl, by simp, ?_⟩
  simp only [kFill_nil, kAgg_a]
  intro hn
  have hs2 := (Sub.refl g1).new hn (some (.cells [ptr la 0] .exact))
  exact aRet_of (Sub.refl _) (hK _ _ _ _ _ (hs1.trans hs2) (hs1.none hn) hla hls ⟨upd_same _ _ _, hh.mono hs2, ne_of_live hh.obj hn, ne_of_live hh.row hn⟩)
end Go.Proofs.YtjpckcikmfihlaaGreat.Gen

namespace Go.Proofs.YtjpckcikmfihlaaGreat.Gen
open Go Go.Proofs.YtjpckcikmfihlaaGreat.Abs Go.RowKit
variable {g : G} {n : Nat}
/-! queues of messages -/
theorem QLen_spec {l off : Nat} {cs : List Value} {bk : BK} {v : Value} {ms : List Ms} (hg : g l = some (.cells cs bk)) (hv : cs[off]? = some v) (hs : Sl encM 12 g v ms) {K : Cont} (hK : ∀ n', K (.int .i64 ms.length) g n') : AC msg_Queue_Len_id [ptr l off] g n K := by
  refine ACalls.fold X0_mono ?_
  rw [← msg_Queue_Len_eq]
  simp only [msg_Queue_Len]
  rw [kBin_p_eql]
  refine kSplit_f rfl ?_
  rw [kNil_p, kPtr_p]
  refine kLd_of hg (by simpa using hv) ?_
  exact hs.len (aRet_of (Sub.refl _) (hK _))
theorem stM {l : Nat} {m z : Ms} {K : G → Prop} (h : g l = some (.cells (encM z) .exact)) (k : upd g l (some (.cells (encM m) .exact)) l = some (.cells (encM m) .exact) → K (upd g l (some (.cells (encM m) .exact)))) : (encM m).length = 12 ∧ kStN g l 0 (encM m) K := by
  refine ⟨encM_len _, kStN_of h rfl (by rw [encM_len, encM_len]; decide) (encM_cell _) ?_⟩
  rw [splice_all (by rw [encM_len, encM_len])]
  exact k (upd_same _ _ _)
theorem Head_spec {l off : Nat} {cs : List Value} {bk : BK} {v : Value} {ms : List Ms} (hg : g l = some (.cells cs bk)) (hv : cs[off]? = some v) (hs : Sl encM 12 g v ms) {K : Cont}
    (hK : ∀ g' n', Sub g g' → K (.tuple #[.agg (encM (ms.headD zeroM)).toArray, .bool (!ms.isEmpty)]) g' n') : AC msg_Queue_Head_id [ptr l off] g n K := by
  refine ACalls.fold X0_mono ?_
  rw [← msg_Queue_Head_eq]
  simp only [msg_Queue_Head, kFill_nil]
  intro hn
  have s1 : Sub g (upd g n (some (.cells (encM zeroM) .exact))) := (Sub.refl g).new hn _
  have hz : upd g n (some (.cells (encM zeroM) .exact)) n = some (.cells (encM zeroM) .exact) := upd_same _ _ _
  change AC msg_Queue_Len_id [ptr l off] (upd g n (some (.cells (encM zeroM) .exact))) (n + 1) _
  refine QLen_spec (s1.live hg) hv (hs.mono s1) (fun n2 => ?_)
  rw [kBin_eql]
  cases ms with
  | nil =>
    refine kSplit_t rfl ?_
    change kAgg (.agg (encM zeroM).toArray) _
    rw [kAgg_a]
    refine stM hz (fun h => ?_)
    refine ldM h ?_
    exact aRet_of (Sub.refl _) (hK _ _ (s1.upd_fresh _ hn))
  | cons m ms =>
    refine kSplit_f (decide_eq_false (by simp; omega)) ?_
    rw [kNil_p, kPtr_p]
    refine kLd_of (s1.live hg) (by simpa using hv) ?_
    refine (hs.mono s1).idx (j := 0) encM_len rfl (fun l2 o2 ha => ?_)
    rw [kPtr_p]
    refine ha.ldN (by rw [encM_len]) ?_
    rw [kAgg_a]
    refine stM hz (fun h => ?_)
    refine ldM h ?_
    exact aRet_of (Sub.refl _) (hK _ _ (s1.upd_fresh _ hn))
theorem kExT {vs : List Value} {i : Nat} {v : Value} {K : Value → Prop} (h : vs[i]? = some v) (k : K v) : kExtract (.tuple vs.toArray) i K := kGet_of h k
theorem set_get {cs : List Value} {off : Nat} {v : Value} (h : cs[off]? = some v) : cs.set off v = cs := by
  apply List.ext_getElem?
  intro i
  rw [List.getElem?_set]
  split
  · rename_i e; subst e; split
    · exact h.symm
    · rename_i hl; rw [List.getElem?_eq_none (by omega)]
  · rfl
variable {T : Type} {o : Col T} {c d : T}
theorem Pop_spec {l off : Nat} {cs : List Value} {bk : BK} {v : Value} {ms : List Ms} (hL : Live o g) (hg : g l = some (.cells cs bk)) (hr : bk.rw = true) (hd : o l = some d) (hcd : c ≠ d) (hv : cs[off]? = some v) (hq : QV encM 12 o c g v ms) {K : Cont}
    (hK : ∀ g' n' v', Kept (· = d) o o g g' → Live o g' → g' l = some (.cells (cs.set off v') bk) → QV encM 12 o c g' v' ms.tail → K (.tuple #[.agg (encM (ms.headD zeroM)).toArray, .bool (!ms.isEmpty)]) g' n') : AC msg_Queue_Pop_id [ptr l off] g n K := by
  refine ACalls.fold X0_mono ?_
  rw [← msg_Queue_Pop_eq]
  simp only [msg_Queue_Pop]
  intro hn
  have s1 : Sub g (upd g n (some (.cells (encM zeroM) .exact))) := (Sub.refl g).new hn _
  have hz : upd g n (some (.cells (encM zeroM) .exact)) n = some (.cells (encM zeroM) .exact) := upd_same _ _ _
  change AC msg_Queue_Head_id [ptr l off] (upd g n (some (.cells (encM zeroM) .exact))) (n + 1) _
  refine Head_spec (s1.live hg) hv ((hq.sl encM_len).mono s1) (fun g2 n2 s2 => ?_)
  refine kExT (vs := [.agg (encM (ms.headD zeroM)).toArray, .bool (!ms.isEmpty)]) rfl (kExT (vs := [.agg (encM (ms.headD zeroM)).toArray, .bool (!ms.isEmpty)]) rfl ?_)
  have s12 := s1.trans s2
  refine newM (fun g3 s3 hn3 h3 => ?_)
  have s123 := s12.trans s3
  have hz3 := s3.live (s2.live hz)
  have hno : o n = none := hL.fresh hn
  have hne : n ≠ n2 := fun e => by rw [← e] at hn3; rw [s2.live hz] at hn3; cases hn3
  have fin : ∀ (g4 : G) (t : Env) (m : Nat) (v' : Value), t 4 = ptr n2 0 → t 2 = ptr n 0 → t 5 = .bool (!ms.isEmpty) → g4 n2 = some (.cells (encM (ms.headD zeroM)) .exact) → g4 n = some (.cells (encM zeroM) .exact) → Kept (· = d) o o g g4 → Live o g4 → g4 l = some (.cells (cs.set off v') bk) → QV encM 12 o c g4 v' ms.tail → msg_Queue_Pop_j1 AC K t g4 m := by
    intro g4 t m v' t4 t2 t5 h4 hz4 hk hl hg4 hq4
    simp only [msg_Queue_Pop_j1, t4, t2, t5, kPtr_p]
    refine ldM h4 ?_
    rw [kAgg_a]
    refine stM hz4 (fun h => ?_)
    refine ldM h ?_
    have hln : l ≠ n := fun e => by rw [e] at hd; rw [hno] at hd; cases hd
    refine aRet_of (Sub.refl _) (hK _ _ v' (hk.fresh hn hno _) (hl.upd _ _) (by rw [upd_ne _ _ hln]; exact hg4) ?_)
    exact hq4.of_upd hno
  cases ms with
  | nil =>
    refine kSplit_f rfl ?_
    refine fin g3 _ _ v rfl rfl rfl h3 hz3 (Kept.of_sub hL s123) (hL.sub s123) ?_ (hq.of_sub s123)
    rw [set_get hv]; exact s123.live hg
  | cons m ms =>
    refine kSplit_t rfl ?_
    have hg3 := s123.live hg
    rw [kNil_p, kPtr_p]
    refine kLd_of hg3 (by simpa using hv) ?_
    refine (hq.of_sub s123).tail encM_len (fun v' hq' => ?_)
    rw [kNil_p, kPtr_p]
    have hoff : off < cs.length := lt_of_get hv
    refine kSt_of hg3 hr (by simpa using hoff) hq'.cellOk ?_
    have e : cs.set (off + 0) v' = cs.set off v' := by rw [Nat.add_zero]
    rw [e]
    have hl2 : n2 ≠ l := fun e => by rw [e, s12.live hg] at hn3; cases hn3
    have hl1 : n ≠ l := fun e => by rw [e, hg] at hn; cases hn
    refine fin _ _ _ v' rfl rfl rfl (by rw [upd_ne _ _ hl2]; exact h3) (by rw [upd_ne _ _ hl1]; exact hz3) ((Kept.of_sub hL s123).trans (Kept.upd (t := (· = d)) hd rfl _)) ((hL.sub s123).upd _ _) (upd_same _ _ _) ?_
    exact hq'.kept (Kept.upd (t := (· = d)) hd rfl _) hcd
/-- a queue with a message more, or why not -/
def pushQ (ms : List Ms) (m : Ms) : List Ms × Int := if goodM m = false then (ms, 11) else if 1000 ≤ ms.length then (ms, 13) else (ms ++ [m], 0)
theorem Push_spec {l off : Nat} {cs : List Value} {bk : BK} {v : Value} {ms : List Ms} {m : Ms} (hL : Live o g) (hg : g l = some (.cells cs bk)) (hr : bk.rw = true) (hd : o l = some d) (hcd : c ≠ d) (hv : cs[off]? = some v) (hq : QV encM 12 o c g v ms) {K : Cont}
    (hK : ∀ o' g' n' v', Kept (fun x => x = c ∨ x = d) o o' g g' → Live o' g' → o' l = some d → g' l = some (.cells (cs.set off v') bk) → QV encM 12 o' c g' v' (pushQ ms m).1 → K (.int .i64 (pushQ ms m).2) g' n') : AC msg_Queue_Push_id [ptr l off, .agg (encM m).toArray] g n K := by
  refine ACalls.fold X0_mono ?_
  rw [← msg_Queue_Push_eq]
  simp only [msg_Queue_Push, kAgg_a]
  intro hn
  have s1 : Sub g (upd g n (some (.cells (encM m) .exact))) := (Sub.refl g).new hn _
  have hm : upd g n (some (.cells (encM m) .exact)) n = some (.cells (encM m) .exact) := upd_same _ _ _
  generalize upd g n (some (.cells (encM m) .exact)) = g1 at s1 hm
  rw [kBin_p_eql]
  refine kSplit_f rfl ?_
  refine ldM hm ?_
  refine Good_spec (fun n2 => ?_)
  rw [kUn_not]
  have hL1 := hL.sub s1
  have same : ∀ e : Int, pushQ ms m = (ms, e) → aRet K (.int .i64 e) g1 n2 := by
    intro e he
    rw [he] at hK
    exact aRet_of (Sub.refl _) (hK o _ _ v (Kept.of_sub hL s1) hL1 hd (by rw [set_get hv]; exact s1.live hg) (hq.of_sub s1))
  by_cases hgm : goodM m = false
  · refine kSplit_t (by rw [hgm]; rfl) ?_
    exact same 11 (by unfold pushQ; rw [if_pos hgm])
  have hgm' : goodM m = true := by cases h : goodM m <;> simp_all
  refine kSplit_f (by rw [hgm']; rfl) ?_
  rw [kNil_p, kPtr_p]
  have hg1 := s1.live hg
  refine kLd_of hg1 (by simpa using hv) ?_
  have hq1 := hq.of_sub s1
  refine (hq1.sl encM_len).len ?_
  rw [kBin_geq]
  by_cases hlen : 1000 ≤ ms.length
  · refine kSplit_t (decide_eq_true (by omega)) ?_
    exact same 13 (by unfold pushQ; rw [if_neg hgm, if_pos hlen])
  refine kSplit_f (decide_eq_false (by omega)) ?_
  have hp : pushQ ms m = (ms ++ [m], 0) := by unfold pushQ; rw [if_neg hgm, if_neg hlen]
  rw [hp] at hK
  rw [kNil_p, kPtr_p]
  refine kLd_of hg1 (by simpa using hv) ?_
  refine ldM hm ?_
  refine kFill_M ?_
  intro hn3
  have s2 : Sub g1 (upd g1 n2 (some (.cells (encM m) .exact))) := (Sub.refl g1).new hn3 _
  have hx : upd g1 n2 (some (.cells (encM m) .exact)) n2 = some (.cells (encM m) .exact) := upd_same _ _ _
  have hne : l ≠ n2 := fun e => by rw [← e, hg1] at hn3; cases hn3
  refine ⟨upd_ne _ _ hne, ?_⟩
  generalize upd g1 n2 (some (.cells (encM m) .exact)) = g2 at s2 hx
  have hno : o n2 = none := hL1.fresh hn3
  have hsl : Sl encM 12 (unc o g2) (.slice (some ⟨n2, 0, none⟩) 1 1) [m] := Sl.one (encM_len m) (bk := .exact) (by rw [unc_none hno]; exact hx)
  refine (hq1.of_sub s2).append encM_len (hL1.sub s2) hsl (by simp) encM_cell (by decide) (by simp; omega) (by simp; omega) (fun v' o' g' n' hk hl hq' => ?_)
  obtain ⟨hd', hgl⟩ := hk.col l d hd (fun e => hcd e.symm)
  have hg' : g' l = some (.cells cs bk) := by rw [hgl]; exact s2.live hg1
  rw [kNil_p, kPtr_p]
  have hoff : off < cs.length := lt_of_get hv
  refine kSt_of hg' hr (by simpa using hoff) hq'.cellOk ?_
  have e : cs.set (off + 0) v' = cs.set off v' := by rw [Nat.add_zero]
  rw [e]
  refine aRet_of (Sub.refl _) (hK o' _ _ v' ((((Kept.of_sub hL (s1.trans s2)).trans (hk.mono (t' := fun x => x = c ∨ x = d) (fun _ h => .inl h)))).trans (Kept.upd (t := fun x => x = c ∨ x = d) hd' (.inr rfl) _)) (hl.upd _ _) hd' (upd_same _ _ _) ?_)
  exact hq'.kept (Kept.upd (t := (· = d)) hd' rfl _) hcd
end Go.Proofs.YtjpckcikmfihlaaGreat.Gen

namespace Go.Proofs.YtjpckcikmfihlaaGreat.Gen
open Go Go.Proofs.YtjpckcikmfihlaaGreat.Abs Go.RowKit
variable {g : G} {n : Nat}
/-- colours of a system's blocks -/
inductive Cl where
  | sys | nodes | dir | que | ent | dev | mem
  | ag (i : Nat) | up (i : Nat) | ans (i : Nat) | dn (i : Nat)
/-! the device -/
structure Dev where
  mem : List Ln
  vol : Nat
structure DevH (o : Col Cl) (g : G) (ld lm : Nat) (D : Dev) : Prop where
  od : o ld = some .dev
  om : o lm = some .mem
  hd : ∃ r w, g ld = some (.cells [.slice (some ⟨lm, 0, none⟩) D.mem.length D.mem.length, .int .i64 (D.vol : Nat), .int .i64 r, .int .i64 w] .exact)
  hm : g lm = some (.cells (D.mem.map encL).flatten .exact)
def isDev (c : Cl) : Prop := c = .dev ∨ c = .mem
theorem DevH.ne {o : Col Cl} {ld lm : Nat} {D : Dev} (h : DevH o g ld lm D) : ld ≠ lm := fun e => by have := h.od; rw [e, h.om] at this; cases this
theorem DevH.kept {o o' : Col Cl} {g' : G} {t : Cl → Prop} {ld lm : Nat} {D : Dev} (h : DevH o g ld lm D) (k : Kept t o o' g g') (h1 : ¬ t .dev) (h2 : ¬ t .mem) : DevH o' g' ld lm D := by
  obtain ⟨r, w, hd⟩ := h.hd
  exact ⟨(k.col _ _ h.od h1).1, (k.col _ _ h.om h2).1, ⟨r, w, (k.col _ _ h.od h1).2.trans hd⟩, (k.col _ _ h.om h2).2.trans h.hm⟩
theorem DevH.mono {o : Col Cl} {g' : G} {ld lm : Nat} {D : Dev} (h : DevH o g ld lm D) (hs : Sub g g') : DevH o g' ld lm D := by
  obtain ⟨r, w, hd⟩ := h.hd
  exact ⟨h.od, h.om, ⟨r, w, hs.live hd⟩, hs.live h.hm⟩
theorem Add64_spec {l off : Nat} {cs : List Value} {bk : BK} {x y : Int} (hg : g l = some (.cells cs bk)) (hr : bk.rw = true) (hv : cs[off]? = some (.int .i64 x)) {K : Cont}
    (hK : ∀ n', K (.int .i64 (IntKind.i64.wrap (x + y))) (upd g l (some (.cells (cs.set off (.int .i64 (IntKind.i64.wrap (x + y)))) bk))) n') : AC sync_atomic_Int64_Add_id [ptr l off, .int .i64 y] g n K := by
  refine ACalls.fold X0_mono ?_
  rw [← sync_atomic_Int64_Add_eq]
  simp only [sync_atomic_Int64_Add]
  rw [kNil_p, kPtr_p]
  refine AddInt64_tell ⟨rfl, ?_⟩
  refine kLd_of (v := .int .i64 x) hg (by simpa using hv) ⟨rfl, ?_⟩
  refine kSt_of hg hr (by simpa using lt_of_get hv) rfl ?_
  rw [Nat.add_zero]
  exact aRet_of (Sub.refl _) (hK _)
def mayE (D : Dev) (line : Int) : Int := if 0 ≤ line ∧ line < D.mem.length then 0 else 12
theorem dmay_spec {o : Col Cl} {ld lm : Nat} {D : Dev} (h : DevH o g ld lm D) (line : Int) {K : Cont} (hK : ∀ n', K (.int .i64 (mayE D line)) g n') : AC nvm_Device_may_id [ptr ld 0, .int .i64 line] g n K := by
  obtain ⟨r, w, hd⟩ := h.hd
  refine ACalls.fold X0_mono ?_
  rw [← nvm_Device_may_eq]
  simp only [nvm_Device_may]
  rw [kBin_p_eql]
  refine kSplit_f rfl ?_
  rw [kBin_lss]
  by_cases h0 : line < 0
  · refine kSplit_t (decide_eq_true h0) ?_
    have e : mayE D line = 12 := by unfold mayE; rw [if_neg (by omega)]
    rw [e] at hK; exact aRet_of (Sub.refl _) (hK _)
  refine kSplit_f (decide_eq_false h0) ?_
  rw [kNil_p, kPtr_p]
  refine kLd_of hd rfl ?_
  simp only [kLen_s]
  rw [kBin_geq]
  by_cases h1 : (D.mem.length : Int) ≤ line
  · refine kSplit_t (decide_eq_true h1) ?_
    have e : mayE D line = 12 := by unfold mayE; rw [if_neg (by omega)]
    rw [e] at hK; exact aRet_of (Sub.refl _) (hK _)
  refine kSplit_f (decide_eq_false h1) ?_
  have e : mayE D line = 0 := by unfold mayE; rw [if_pos (by omega)]
  rw [e] at hK; exact aRet_of (Sub.refl _) (hK _)
/-- a line's words; nought if there is no such line -/
def Dev.get (D : Dev) (line : Int) : Ln := if 0 ≤ line then D.mem.getD line.toNat zeroL else zeroL
theorem stLz {l : Nat} {x z : Ln} {K : G → Prop} (h : g l = some (.cells (encL z) .exact)) (k : upd g l (some (.cells (encL x) .exact)) l = some (.cells (encL x) .exact) → K (upd g l (some (.cells (encL x) .exact)))) : (encL x).length = 8 ∧ kStN g l 0 (encL x) K := by
  refine ⟨encL_len _, kStN_of h rfl (by rw [encL_len, encL_len]; decide) (encL_cell _) ?_⟩
  rw [splice_all (by rw [encL_len, encL_len])]
  exact k (upd_same _ _ _)
theorem DRead_spec {o : Col Cl} {ld lm : Nat} {D : Dev} (hL : Live o g) (h : DevH o g ld lm D) (line : Int) {K : Cont}
    (hK : ∀ g' n', Kept isDev o o g g' → Live o g' → DevH o g' ld lm D → K (.tuple #[.agg (encL (if mayE D line = 0 then D.get line else zeroL)).toArray, .int .i64 (mayE D line)]) g' n') : AC nvm_Device_Read_id [ptr ld 0, .int .i64 line] g n K := by
  refine ACalls.fold X0_mono ?_
  rw [← nvm_Device_Read_eq]
  simp only [nvm_Device_Read, kFill_nil]
  intro hn
  have s1 : Sub g (upd g n (some (.cells (encL zeroL) .exact))) := (Sub.refl g).new hn _
  have hz : upd g n (some (.cells (encL zeroL) .exact)) n = some (.cells (encL zeroL) .exact) := upd_same _ _ _
  change AC nvm_Device_may_id [ptr ld 0, .int .i64 line] (upd g n (some (.cells (encL zeroL) .exact))) (n + 1) _
  generalize upd g n (some (.cells (encL zeroL) .exact)) = g1 at s1 hz
  have h1 := h.mono s1
  have hno : o n = none := hL.fresh hn
  refine dmay_spec h1 line (fun n2 => ?_)
  rw [kBin_neq]
  by_cases he : mayE D line = 0
  · rw [if_pos he, he] at hK
    refine kSplit_f (by rw [he]; rfl) ?_
    have hr : 0 ≤ line ∧ line < D.mem.length := by
      unfold mayE at he; split at he
      · assumption
      · cases he
    obtain ⟨k, rfl⟩ : ∃ k : Nat, line = k := ⟨line.toNat, by omega⟩
    obtain ⟨r, w, hd⟩ := h1.hd
    rw [kNil_p, kPtr_p]
    refine Add64_spec hd rfl rfl (fun n3 => ?_)
    rw [kNil_p, kPtr_p]
    refine kLd_of (upd_same _ _ _) rfl ?_
    refine kIndexAddr_s (by omega) (by omega) ?_
    rw [kPtr_p]
    have hm2 : upd g1 ld (some (.cells ([.slice (some ⟨lm, 0, none⟩) D.mem.length D.mem.length, .int .i64 (D.vol : Nat), .int .i64 r, .int .i64 w].set (0 + 2) (.int .i64 (IntKind.i64.wrap (r + 1)))) .exact)) lm = some (.cells (D.mem.map encL).flatten .exact) := by rw [upd_ne _ _ h1.ne.symm]; exact h1.hm
    have hget : D.mem[k]? = some (D.get k) := by
      unfold Dev.get
      rw [if_pos (by omega), Int.toNat_natCast, List.getD_eq_getElem?_getD, List.getElem?_eq_getElem (by omega)]; rfl
    have e0 : 0 + (k : Int).toNat * 8 = k * 8 := by rw [Int.toNat_natCast, Nat.zero_add]
    rw [e0]
    refine Blk1.ldN (enc := encL) encL_len hm2 hget ?_
    rw [kAgg_a]
    have hnd : n ≠ ld := fun e => by have := h.od; rw [← e, hno] at this; cases this
    refine stLz (z := zeroL) (by rw [upd_ne _ _ hnd]; exact hz) (fun hz5 => ?_)
    refine ldL hz5 ?_
    have hnm : n ≠ lm := fun e => by have := h.om; rw [← e, hno] at this; cases this
    refine aRet_of (Sub.refl _) (hK _ _ (((Kept.of_sub hL s1).trans (Kept.upd (t := isDev) h.od (.inl rfl) _)).fresh hn hno _) (((hL.sub s1).upd _ _).upd _ _) ⟨h.od, h.om, ⟨IntKind.i64.wrap (r + 1), w, ?_⟩, ?_⟩)
    · rw [upd_ne _ _ hnd.symm, upd_same]; rfl
    · rw [upd_ne _ _ hnm.symm]; exact hm2
  · rw [if_neg he] at hK
    refine kSplit_t (decide_eq_true he) ?_
    change kAgg (.agg (encL zeroL).toArray) _
    rw [kAgg_a]
    refine stLz hz (fun hz5 => ?_)
    refine ldL hz5 ?_
    have hnd : n ≠ ld := fun e => by have := h.od; rw [← e, hno] at this; cases this
    have hnm : n ≠ lm := fun e => by have := h.om; rw [← e, hno] at this; cases this
    obtain ⟨r, w, hd⟩ := h1.hd
    exact aRet_of (Sub.refl _) (hK _ _ ((Kept.of_sub hL s1).fresh hn hno _) ((hL.sub s1).upd _ _) ⟨h.od, h.om, ⟨r, w, by rw [upd_ne _ _ hnd.symm]; exact hd⟩, by rw [upd_ne _ _ hnm.symm]; exact h1.hm⟩)
def Dev.put (D : Dev) (line : Int) (x : Ln) : Dev := if mayE D line = 0 then ⟨D.mem.set line.toNat x, D.vol⟩ else D
theorem DWrite_spec {o : Col Cl} {ld lm : Nat} {D : Dev} (hL : Live o g) (h : DevH o g ld lm D) (line : Int) (x : Ln) {K : Cont}
    (hK : ∀ g' n', Kept isDev o o g g' → Live o g' → DevH o g' ld lm (D.put line x) → K (.int .i64 (mayE D line)) g' n') : AC nvm_Device_Write_id [ptr ld 0, .int .i64 line, .agg (encL x).toArray] g n K := by
  refine ACalls.fold X0_mono ?_
  rw [← nvm_Device_Write_eq]
  simp only [nvm_Device_Write, kAgg_a]
  intro hn
  have s1 : Sub g (upd g n (some (.cells (encL x) .exact))) := (Sub.refl g).new hn _
  have hz : upd g n (some (.cells (encL x) .exact)) n = some (.cells (encL x) .exact) := upd_same _ _ _
  generalize upd g n (some (.cells (encL x) .exact)) = g1 at s1 hz
  have h1 := h.mono s1
  have hno : o n = none := hL.fresh hn
  refine dmay_spec h1 line (fun n2 => ?_)
  rw [kBin_neq]
  by_cases he : mayE D line = 0
  · have hp : D.put line x = ⟨D.mem.set line.toNat x, D.vol⟩ := by unfold Dev.put; rw [if_pos he]
    rw [hp, he] at hK
    refine kSplit_f (by rw [he]; rfl) ?_
    have hr : 0 ≤ line ∧ line < D.mem.length := by
      unfold mayE at he; split at he
      · assumption
      · cases he
    obtain ⟨k, rfl⟩ : ∃ k : Nat, line = k := ⟨line.toNat, by omega⟩
    obtain ⟨r, w, hd⟩ := h1.hd
    rw [kNil_p, kPtr_p]
    refine Add64_spec hd rfl rfl (fun n3 => ?_)
    rw [kNil_p, kPtr_p]
    refine kLd_of (upd_same _ _ _) rfl ?_
    have hnd : n ≠ ld := fun e => by have := h.od; rw [← e, hno] at this; cases this
    have hnm : n ≠ lm := fun e => by have := h.om; rw [← e, hno] at this; cases this
    refine ldL (x := x) (by rw [upd_ne _ _ hnd]; exact hz) ?_
    refine kIndexAddr_s (by omega) (by omega) ?_
    rw [kPtr_p]
    have hm2 : upd g1 ld (some (.cells ([.slice (some ⟨lm, 0, none⟩) D.mem.length D.mem.length, .int .i64 (D.vol : Nat), .int .i64 r, .int .i64 w].set (0 + 3) (.int .i64 (IntKind.i64.wrap (w + 1)))) .exact)) lm = some (.cells (D.mem.map encL).flatten .exact) := by rw [upd_ne _ _ h1.ne.symm]; exact h1.hm
    have e0 : 0 + (k : Int).toNat * 8 = k * 8 := by rw [Int.toNat_natCast, Nat.zero_add]
    rw [e0]
    refine ⟨encL_len _, Blk1.stN (enc := encL) encL_len encL_cell hm2 rfl (by omega) (fun hb => ?_)⟩
    refine aRet_of (Sub.refl _) (hK _ _ (((Kept.of_sub hL s1).trans (Kept.upd (t := isDev) h.od (.inl rfl) _)).trans (Kept.upd (t := isDev) h.om (.inr rfl) _)) (((hL.sub s1).upd _ _).upd _ _) ⟨h.od, h.om, ⟨r, IntKind.i64.wrap (w + 1), ?_⟩, ?_⟩)
    · rw [upd_ne _ _ h1.ne, upd_same, List.length_set]; rfl
    · rw [Int.toNat_natCast]; exact hb
  · have hp : D.put line x = D := by unfold Dev.put; rw [if_neg he]
    rw [hp] at hK
    refine kSplit_t (decide_eq_true he) ?_
    exact aRet_of (Sub.refl _) (hK _ _ (Kept.of_sub hL s1) (hL.sub s1) h1)
def Dev.fail (D : Dev) : Dev := ⟨List.replicate D.vol zeroL ++ D.mem.drop D.vol, D.vol⟩
theorem DFail_spec {o : Col Cl} {ld lm : Nat} {D : Dev} (hL : Live o g) (h : DevH o g ld lm D) (hv : 1 ≤ D.vol ∧ D.vol < D.mem.length ∧ D.mem.length ≤ 64) {K : Cont}
    (hK : ∀ g' n', Kept isDev o o g g' → Live o g' → DevH o g' ld lm D.fail → K (.tuple #[]) g' n') : AC nvm_Device_Fail_id [ptr ld 0] g n K := by
  obtain ⟨r, w, hd⟩ := h.hd
  refine ACalls.fold X0_mono ?_
  rw [← nvm_Device_Fail_eq]
  simp only [nvm_Device_Fail]
  rw [kBin_p_neq]
  refine kSplit_t rfl ?_
  rw [kNil_p, kPtr_p]
  refine kLd_of hd rfl ?_
  rw [kNil_p, kPtr_p]
  refine kLd_of hd rfl ?_
  refine kSlice_to (.inl ⟨by unfold LC; omega, Nat.le_refl _⟩) (by omega) ?_
  show kClear (.slice (some ⟨lm, 0, none⟩) D.vol D.mem.length) (encL zeroL) g _
  simp only [kClear]
  rw [if_neg (by simp [encL]; refine ⟨by omega, ?_⟩; intro e; have := zeroL.2; rw [e] at this; cases this)]
  have hlen : (D.mem.map encL).flatten.length = D.mem.length * 8 := flat_len encL 8 encL_len _
  have hrl : (reps D.vol (encL zeroL)).length = D.vol * 8 := by rw [flat_reps, flat_len encL 8 encL_len, List.length_replicate]
  refine kStN_of h.hm rfl (by rw [hlen, hrl]; omega) ?_ ?_
  · intro v hv
    rw [flat_reps] at hv
    obtain ⟨l, hl, hw⟩ := List.mem_flatten.1 hv
    obtain ⟨y, _, rfl⟩ := List.mem_map.1 hl
    exact encL_cell y v hw
  have e : splice (D.mem.map encL).flatten 0 (reps D.vol (encL zeroL)) = (D.fail.mem.map encL).flatten := by
    have h3 := flat_splice (enc := encL) (z := 8) encL_len D.mem (List.replicate D.vol zeroL) 0 (by simp; omega)
    rw [Nat.zero_mul] at h3
    rw [flat_reps, h3]
    simp [Dev.fail]
  rw [e]
  refine aRet_of (Sub.refl _) (hK _ _ (Kept.upd (t := isDev) h.om (.inr rfl) _) (hL.upd _ _) ⟨h.od, h.om, ⟨r, w, ?_⟩, upd_same _ _ _⟩)
  rw [upd_ne _ _ h.ne, hd]
  have : D.fail.mem.length = D.mem.length := by simp [Dev.fail]; omega
  rw [this]; rfl
end Go.Proofs.YtjpckcikmfihlaaGreat.Gen

namespace Go.Proofs.YtjpckcikmfihlaaGreat.Gen
open Go Go.Proofs.YtjpckcikmfihlaaGreat.Abs Go.RowKit
variable {g : G} {n : Nat}
theorem flat_zero (k : Nat) : reps k [.int .u64 0, .int .u64 0, .int .u64 0, .int .u64 0, .int .u64 0, .int .u64 0, .int .u64 0, .int .u64 0] = ((List.replicate k zeroL).map encL).flatten := flat_reps (enc := encL) zeroL k
theorem DNew_spec {o : Col Cl} (hL : Live o g) {lines vol : Nat} (h1 : 2 ≤ lines) (h2 : lines ≤ 64) (h3 : 1 ≤ vol) (h4 : vol < lines) {K : Cont}
    (hK : ∀ ld lm o' g' n', Kept isDev o o' g g' → Live o' g' → Sub g g' → DevH o' g' ld lm ⟨List.replicate lines zeroL, vol⟩ → K (.tuple #[ptr ld 0, .int .i64 0]) g' n') : AC nvm_New_id [.int .i64 (lines : Nat), .int .i64 (vol : Nat)] g n K := by
  refine ACalls.fold X0_mono ?_
  rw [← nvm_New_eq]
  simp only [nvm_New]
  rw [kBin_lss]
  refine kSplit_f (decide_eq_false (by omega)) ?_
  rw [kBin_gtr]
  refine kSplit_f (decide_eq_false (by omega)) ?_
  rw [kBin_lss]
  refine kSplit_f (decide_eq_false (by omega)) ?_
  rw [kBin_sub, wrap64_of (by omega) (by omega), kBin_gtr]
  refine kSplit_f (decide_eq_false (by omega)) ?_
  refine ⟨by omega, by omega, by omega, by omega, ?_⟩
  intro hn
  simp only [Int.toNat_natCast]
  rw [flat_zero]
  refine ⟨rfl, by simp, rfl, by simp, ?_⟩
  simp only [kFill_nil, kAgg_a]
  intro hn2
  have hno : o n = none := hL.fresh hn
  have hne : n ≠ n + 1 := by omega
  have hL1 := hL.new n Cl.mem (.cells ((List.replicate lines zeroL).map encL).flatten .exact)
  have hno2 : upd o n (some Cl.mem) (n + 1) = none := hL1.fresh hn2
  refine aRet_of (Sub.refl _) (hK (n + 1) n _ _ _ ((Kept.new (t := isDev) (c := .mem) hno hn (.inr rfl) _).trans (Kept.new (t := isDev) (c := .dev) hno2 hn2 (.inl rfl) _)) (hL1.new (n + 1) Cl.dev _) (((Sub.refl g).new hn _).new hn2 _) ⟨upd_same _ _ _, by rw [upd_ne _ _ hne, upd_same], ⟨0, 0, ?_⟩, by rw [upd_ne _ _ hne, upd_same]⟩)
  rw [upd_same, List.length_replicate]; rfl
/-- a copy of the lines, in a block of its own -/
theorem CloneL_spec {v : Value} {l off m c : Nat} {xs : List Ln} (hv : v = .slice (some ⟨l, off, none⟩) m c) (h : Sl encL 8 g v xs) (hne : xs ≠ []) (hlen : xs.length < 1000000) {K : Cont}
    (hK : ∀ lb g' n', Sub g g' → g lb = none → g' lb = some (.cells (xs.map encL).flatten (.loose 8)) → K (.slice (some ⟨lb, 0, none⟩) xs.length (LC + 8)) g' n') : AC slices_Clone_api_Line_api_Line_id [v] g n K := by
  subst hv
  refine ACalls.fold X0_mono ?_
  rw [← slices_Clone_api_Line_api_Line_eq]
  simp only [slices_Clone_api_Line_api_Line, kBin_s_eql]
  refine kSplit_f rfl ?_
  simp only [kFill_nil]
  intro hn
  have hs := (Sub.refl g).new hn (some (.cells (reps 0 [.int .u64 0, .int .u64 0, .int .u64 0, .int .u64 0, .int .u64 0, .int .u64 0, .int .u64 0, .int .u64 0]) .exact))
  obtain rfl : m = xs.length := by obtain ⟨a, c, e, _⟩ := id h; cases e; rfl
  have hx : 0 < xs.length := by cases xs with
    | nil => exact absurd rfl hne
    | cons x xs => simp
  refine ⟨by decide, by omega, by omega, Rd.elems (h.mono hs) ⟨?_, ?_⟩⟩
  · intro w hw
    obtain ⟨l, hl, hw⟩ := List.mem_flatten.1 hw
    obtain ⟨y, _, rfl⟩ := List.mem_map.1 hl
    exact encL_cell y w hw
  rw [if_pos (by unfold LC; decide), if_neg (by omega)]
  refine Rd.elems (Rd.lit (upd_same _ _ _) rfl) ?_
  intro hn2
  simp only [Nat.zero_add]
  refine aRet_of (Sub.refl _) (hK _ _ _ (hs.new hn2 _) (hs.none hn2) ?_)
  rw [upd_same]; rfl
theorem DevH.sl {o : Col Cl} {ld lm : Nat} {D : Dev} (h : DevH o g ld lm D) : Sl encL 8 g (.slice (some ⟨lm, 0, none⟩) D.mem.length D.mem.length) D.mem := Rd.lit h.hm (flat_len encL 8 encL_len _)
theorem DImage_spec {o : Col Cl} {ld lm : Nat} {D : Dev} (h : DevH o g ld lm D) (hne : D.mem ≠ []) (hlen : D.mem.length ≤ 64) {K : Cont}
    (hK : ∀ lb g' n', Sub g g' → g lb = none → g' lb = some (.cells (D.mem.map encL).flatten (.loose 8)) → K (.slice (some ⟨lb, 0, none⟩) D.mem.length (LC + 8)) g' n') : AC nvm_Device_Image_id [ptr ld 0] g n K := by
  obtain ⟨r, w, hd⟩ := h.hd
  refine ACalls.fold X0_mono ?_
  rw [← nvm_Device_Image_eq]
  simp only [nvm_Device_Image]
  rw [kBin_p_eql]
  refine kSplit_f rfl ?_
  rw [kNil_p, kPtr_p]
  refine kLd_of hd rfl ?_
  exact CloneL_spec rfl h.sl hne (by omega) (fun lb g' n' a b c => aRet_of (Sub.refl _) (hK _ _ _ a b c))
/-- another image -/
theorem DRestore_spec {o : Col Cl} {ld lm : Nat} {D : Dev} {v : Value} {img : List Ln} (hL : Live o g) (h : DevH o g ld lm D) (hv : Sl encL 8 g v img) (hl : img.length = D.mem.length) (hne : img ≠ []) {K : Cont}
    (hK : ∀ g' n', Kept isDev o o g g' → Live o g' → DevH o g' ld lm ⟨img, D.vol⟩ → K (.int .i64 0) g' n') : AC nvm_Device_Restore_id [ptr ld 0, v] g n K := by
  obtain ⟨r, w, hd⟩ := h.hd
  refine ACalls.fold X0_mono ?_
  rw [← nvm_Device_Restore_eq]
  simp only [nvm_Device_Restore]
  rw [kBin_p_eql]
  refine kSplit_f rfl ?_
  refine hv.len ?_
  rw [kNil_p, kPtr_p]
  refine kLd_of hd rfl ?_
  simp only [kLen_s]
  rw [kBin_neq]
  refine kSplit_f (decide_eq_false (by rw [hl]; simp)) ?_
  rw [kNil_p, kPtr_p]
  refine kLd_of hd rfl ?_
  obtain ⟨av, cv, rfl⟩ : ∃ a c, v = .slice a img.length c := by obtain ⟨a, c, e, _⟩ := id hv; exact ⟨a, c, e⟩
  show kCopy (.slice (some ⟨lm, 0, none⟩) D.mem.length D.mem.length) (.slice av img.length cv) 8 g _
  simp only [kCopy]
  rw [hl, Nat.min_self, ← hl]
  refine Rd.elems hv ⟨?_, ?_⟩
  · intro w hw
    obtain ⟨l, hl, hw⟩ := List.mem_flatten.1 hw
    obtain ⟨y, _, rfl⟩ := List.mem_map.1 hl
    exact encL_cell y w hw
  have hfl : (img.map encL).flatten.length = img.length * 8 := flat_len encL 8 encL_len _
  have hdl : (D.mem.map encL).flatten.length = D.mem.length * 8 := flat_len encL 8 encL_len _
  have hx : 0 < img.length := by cases img with
    | nil => exact absurd rfl hne
    | cons x xs => simp
  rw [if_neg (fun e => by rw [e] at hfl; simp at hfl; omega)]
  refine kStN_of h.hm rfl (by omega) ?_ ?_
  · intro w hw
    obtain ⟨l, hl, hw⟩ := List.mem_flatten.1 hw
    obtain ⟨y, _, rfl⟩ := List.mem_map.1 hl
    exact encL_cell y w hw
  rw [splice_all (by omega)]
  refine aRet_of (Sub.refl _) (hK _ _ (Kept.upd (t := isDev) h.om (.inr rfl) _) (hL.upd _ _) ⟨h.od, h.om, ⟨r, w, ?_⟩, upd_same _ _ _⟩)
  rw [upd_ne _ _ h.ne, hd]
  show _ = some (Blk.cells [.slice (some ⟨lm, 0, none⟩) img.length img.length, _, _, _] .exact)
  rw [hl]
end Go.Proofs.YtjpckcikmfihlaaGreat.Gen

namespace Go.Proofs.YtjpckcikmfihlaaGreat.Gen
open Go Go.Proofs.YtjpckcikmfihlaaGreat.Abs Go.RowKit
variable {g : G} {n : Nat}
/-! the memory's queue -/
structure En where
  line : Int
  data : Ln
def encE (e : En) : List Value := .int .i64 e.line :: encL e.data
theorem encE_len (e : En) : (encE e).length = 9 := by simp [encE, encL_len]
theorem encE_cell (e : En) : ∀ v ∈ encE e, isCell v = true := by
  intro v hv
  rcases List.mem_cons.1 hv with rfl | hv
  · rfl
  · exact encL_cell _ _ hv
/-- the entries' slice: nil, or the first elements of a block of its own -/
def EV (o : Col Cl) (g : G) (v : Value) (es : List En) : Prop :=
  (v = .slice none 0 0 ∧ es = []) ∨ ∃ le rest, v = .slice (some ⟨le, 0, none⟩) es.length (es ++ rest).length ∧ o le = some .ent ∧ g le = some (.cells ((es ++ rest).map encE).flatten .exact) ∧ (es ++ rest).length < 1000000
theorem EV.kept {o o' : Col Cl} {g' : G} {t : Cl → Prop} {v : Value} {es : List En} (h : EV o g v es) (k : Kept t o o' g g') (ht : ¬ t .ent) : EV o' g' v es := by
  rcases h with h | ⟨le, rest, rfl, ho, hg, hl⟩
  · exact .inl h
  · exact .inr ⟨le, rest, rfl, (k.col _ _ ho ht).1, (k.col _ _ ho ht).2.trans hg, hl⟩
theorem EV.mono {o : Col Cl} {g' : G} {v : Value} {es : List En} (h : EV o g v es) (hs : Sub g g') : EV o g' v es := by
  rcases h with h | ⟨le, rest, rfl, ho, hg, hl⟩
  · exact .inl h
  · exact .inr ⟨le, rest, rfl, ho, hs.live hg, hl⟩
theorem EV.sl {o : Col Cl} {v : Value} {es : List En} (h : EV o g v es) : Sl encE 9 g v es := by
  rcases h with ⟨rfl, rfl⟩ | ⟨le, rest, rfl, ho, hg, hl⟩
  · exact Sl.nil
  · have := Blk1.sl (enc := encE) (i := 0) (m := es.length) (c := (es ++ rest).length) encE_len hg (by simp)
    rw [Nat.zero_mul, List.drop_zero, List.take_left' rfl] at this
    exact this
structure QuH (o : Col Cl) (g : G) (lq ld : Nat) (room : Int) (v : Value) (es : List En) : Prop where
  oq : o lq = some .que
  hq : g lq = some (.cells [ptr ld 0, .int .i64 room, v] .exact)
  he : EV o g v es
theorem QuH.kept {o o' : Col Cl} {g' : G} {t : Cl → Prop} {lq ld : Nat} {room : Int} {v : Value} {es : List En} (h : QuH o g lq ld room v es) (k : Kept t o o' g g') (h1 : ¬ t .que) (h2 : ¬ t .ent) : QuH o' g' lq ld room v es :=
  ⟨(k.col _ _ h.oq h1).1, (k.col _ _ h.oq h1).2.trans h.hq, h.he.kept k h2⟩
theorem QuH.mono {o : Col Cl} {g' : G} {lq ld : Nat} {room : Int} {v : Value} {es : List En} (h : QuH o g lq ld room v es) (hs : Sub g g') : QuH o g' lq ld room v es := ⟨h.oq, hs.live h.hq, h.he.mono hs⟩
/-- the newest words of a line in the queue -/
def newest (es : List En) (x : Int) : Option Ln := (es.reverse.find? (fun e => decide (e.line = x))).map (·.data)
theorem encL_u64 (l : Ln) : (encL l).all isU64 = true := by
  rw [List.all_eq_true]
  intro v hv
  unfold encL at hv
  obtain ⟨i, _, rfl⟩ := List.mem_map.1 hv
  rfl
theorem rElem_flat {xs : List En} {k : Nat} {e : En} (h : xs[k]? = some e) : rElem (xs.map encE).flatten (0 + k * 9) = some (e.line, encL e.data) := by
  have hlt := lt_of_get h
  have hfl : (xs.map encE).flatten.length = xs.length * 9 := flat_len encE 9 encE_len xs
  have hat := flat_at encE 9 encE_len xs k e h
  rw [Nat.zero_add]
  have h9 : k * 9 + 9 ≤ xs.length * 9 := by have := Nat.mul_le_mul_right 9 (show k + 1 ≤ xs.length from hlt); omega
  have hdrop : ((xs.map encE).flatten.drop (k * 9 + 1)).take 8 = encL e.data := by
    have h3 := congrArg (fun t => (t.drop 1).take 8) hat
    rw [List.drop_take, List.drop_drop, List.take_take] at h3
    have e1 : min 8 (9 - 1) = 8 := by decide
    rw [e1] at h3
    rw [h3]
    show (encL e.data).take 8 = encL e.data
    exact List.take_of_length_le (by rw [encL_len]; exact Nat.le_refl _)
  have h0 : (xs.map encE).flatten[k * 9]? = some (.int .i64 e.line) := by
    have h3 := congrArg (fun t => t[0]?) hat
    rw [List.getElem?_take, if_pos (by decide), List.getElem?_drop, Nat.add_zero] at h3
    exact h3
  unfold rElem
  rw [if_pos ⟨by omega, by rw [hdrop]; exact encL_u64 _⟩, h0, hdrop]
theorem rBack_flat {xs : List En} {x : Int} : ∀ {k : Nat}, k ≤ xs.length → rBack (xs.map encE).flatten 0 x k = some (((xs.take k).reverse.find? (fun e => decide (e.line = x))).map (fun e => encL e.data))
  | 0, _ => rfl
  | k + 1, h => by
    have hget : xs[k]? = some xs[k] := List.getElem?_eq_getElem (by omega)
    simp only [rBack, rElem_flat hget, rBack_flat (Nat.le_of_succ_le h)]
    rw [take_add hget, List.reverse_append]
    simp only [List.reverse_cons, List.reverse_nil, List.nil_append, List.singleton_append, List.find?_cons]
    by_cases he : xs[k].line = x
    · rw [if_pos he, decide_eq_true he]; rfl
    · rw [if_neg he, decide_eq_false he]
theorem rFind_ev {o : Col Cl} {a : Option Addr} {len c : Nat} {es : List En} (h : EV o g (.slice a len c) es) (x : Int) : len = es.length ∧ rFind g a len x = some ((newest es x).map encL) := by
  rcases h with ⟨e, rfl⟩ | ⟨le, rest, e, ho, hg, hl⟩
  · cases e; exact ⟨rfl, rfl⟩
  · cases e
    refine ⟨rfl, ?_⟩
    unfold rFind newest
    by_cases h0 : es.length = 0
    · have : es = [] := List.eq_nil_of_length_eq_zero h0
      subst this
      rfl
    · rw [if_neg h0, if_pos (by simp at hl; omega)]
      simp only [hg]
      rw [rBack_flat (by simp), List.take_left' rfl, Option.map_map]
      rfl
/-- what the queue tells of a line -/
def readQ (es : List En) (D : Dev) (line : Int) : Ln := (newest es line).getD (D.get line)
theorem WRead_spec {o : Col Cl} {lq ld lm : Nat} {room : Int} {v : Value} {es : List En} {D : Dev} (hL : Live o g) (h : QuH o g lq ld room v es) (hD : DevH o g ld lm D) {line : Int} (h0 : 0 ≤ line) (h1 : line < D.mem.length) (h64 : D.mem.length ≤ 64) {K : Cont}
    (hK : ∀ g' n', Kept isDev o o g g' → Live o g' → DevH o g' ld lm D → K (.tuple #[.agg (encL (readQ es D line)).toArray, .int .i64 0]) g' n') : AC wpq_Queue_Read_id [ptr lq 0, .int .i64 line] g n K := by
  refine Read_tell ?_
  obtain ⟨a, len, c, rfl⟩ : ∃ a len c, v = .slice a len c := by
    rcases h.he with ⟨e, _⟩ | ⟨le, rest, e, _⟩ <;> exact ⟨_, _, _, e⟩
  obtain ⟨hlen, hf⟩ := rFind_ev h.he line
  have hr : rRead [ptr lq 0, .int .i64 line] g = (match (newest es line).map encL with | some d => some (.tuple #[.agg d.toArray, .int .i64 0], none) | none => rDev ld 0 line g) := by
    show (match g lq with | some (.cells cs _) => _ | _ => _) = _
    rw [h.hq]
    show (match rFind g a len line with | some (some d) => _ | some none => _ | none => _) = _
    rw [hf]
    cases (newest es line).map encL <;> rfl
  unfold kLook
  rw [hr]
  cases hn : newest es line with
  | some d =>
    have e : readQ es D line = d := by unfold readQ; rw [hn]; rfl
    rw [e] at hK
    exact hK _ _ (Kept.refl _ _ _) hL hD
  | none =>
    have e : readQ es D line = D.get line := by unfold readQ; rw [hn]; rfl
    rw [e] at hK
    obtain ⟨k, rfl⟩ : ∃ k : Nat, line = k := ⟨line.toNat, by omega⟩
    obtain ⟨r, w, hd⟩ := hD.hd
    have hget : D.mem[k]? = some (D.get k) := by
      unfold Dev.get
      rw [if_pos (by omega), Int.toNat_natCast, List.getD_eq_getElem?_getD, List.getElem?_eq_getElem (by omega)]; rfl
    have hat := flat_at encL 8 encL_len D.mem k _ hget
    have hfl : (D.mem.map encL).flatten.length = D.mem.length * 8 := flat_len encL 8 encL_len _
    have h9 : k * 8 + 8 ≤ D.mem.length * 8 := by have := Nat.mul_le_mul_right 8 (show k + 1 ≤ D.mem.length by omega); omega
    have hdev : rDev ld 0 k g = some (.tuple #[.agg (encL (D.get k)).toArray, .int .i64 0], some (ld, 2, .int .i64 (IntKind.wrap .i64 (r + 1)))) := by
      unfold rDev
      rw [hd]
      show (if 0 ≤ (k : Int) ∧ (k : Int) < (D.mem.length : Nat) ∧ lm ≠ ld ∧ D.mem.length < 1099511627776 then _ else none) = _
      rw [if_pos ⟨by omega, h1, hD.ne.symm, by omega⟩, hD.hm]
      simp only [Int.toNat_natCast, Nat.zero_add]
      rw [if_pos ⟨by omega, by rw [hat]; exact encL_u64 _⟩, hat]
    simp only [Option.map_none]
    rw [hdev]
    refine kSt_of hd rfl (by show 2 < 4; decide) rfl ?_
    refine hK _ _ (Kept.upd (t := isDev) hD.od (.inl rfl) _) (hL.upd _ _) ⟨hD.od, hD.om, ⟨IntKind.i64.wrap (r + 1), w, ?_⟩, ?_⟩
    · rw [upd_same]; rfl
    · rw [upd_ne _ _ hD.ne.symm]; exact hD.hm
end Go.Proofs.YtjpckcikmfihlaaGreat.Gen

namespace Go.Proofs.YtjpckcikmfihlaaGreat.Gen
open Go Go.Proofs.YtjpckcikmfihlaaGreat.Abs Go.RowKit
variable {g : G} {n : Nat}
def zeroE : En := ⟨0, zeroL⟩
def encI (i : Int) : List Value := [.int .i64 i]
theorem encI_len (i : Int) : (encI i).length = 1 := rfl
theorem encI_cell (i : Int) : ∀ v ∈ encI i, isCell v = true := by simp [encI, isCell]
/-- an entry in a variable of its own -/
theorem newE {e : En} {K : Nat → G → Nat → Prop} (k : ∀ g2, Sub g g2 → g n = none → g2 n = some (.cells (encE e) .exact) → K n g2 (n + 1)) :
    kNew (encE zeroE) .exact g n fun l g1 n1 => kAgg (.agg (encE e).toArray) fun cg => cg.length = 9 ∧ kStN g1 l 0 cg fun g2 => K l g2 n1 := by
  intro hn
  simp only [kAgg_a]
  refine ⟨encE_len _, kStN_of (upd_same _ _ _) rfl (by rw [encE_len, encE_len]; decide) (encE_cell _) ?_⟩
  rw [splice_all (by rw [encE_len, encE_len])]
  exact k _ (((Sub.refl g).new hn _).upd_fresh _ hn) hn (upd_same _ _ _)
theorem ldEd {l : Nat} {e : En} {bk : BK} {K : List Value → Prop} (h : g l = some (.cells (encE e) bk)) (k : K (encL e.data)) : kLdN g l (0 + 1) 8 K := by
  refine kLdN_of h (by rw [encE_len]; decide) ?_
  have : ((encE e).drop (0 + 1)).take 8 = encL e.data := by
    show (encL e.data).take 8 = encL e.data
    exact List.take_of_length_le (by rw [encL_len]; exact Nat.le_refl _)
  rw [this]; exact k
theorem WLines_spec {o : Col Cl} {lq ld : Nat} {room : Int} {v : Value} {es : List En} (h : QuH o g lq ld room v es) (hlen : es.length < 1000000) {K : Cont}
    (hK : ∀ v' g' n', Sub g g' → OwnS encI 1 g g' v' (es.map (·.line)) → K v' g' n') : AC wpq_Queue_Lines_id [ptr lq 0] g n K := by
  refine ACalls.fold X0_mono ?_
  rw [← wpq_Queue_Lines_eq]
  simp only [wpq_Queue_Lines]
  rw [kBin_p_eql]
  refine kSplit_f rfl ?_
  rw [kNil_p, kPtr_p]
  refine kLd_of h.hq rfl ?_
  refine h.he.sl.len ?_
  refine lfp_ind (m := es.length) (Inv := fun m t g9 n9 => ∃ (j : Nat) (w : Value), m + j = es.length ∧ Sub g g9 ∧ OwnS encI 1 g g9 w ((es.take j).map (·.line)) ∧ t 11 = v ∧ t 12 = .int .i64 (es.length : Nat) ∧ t 13 = .int .i64 (j : Nat) ∧ t 3 = w) ?_
    ⟨0, .slice none 0 0, by omega, Sub.refl _, OwnS.nil, rfl, rfl, rfl, rfl⟩
  rintro I m t g9 n9 ih ⟨j, w, hm, hs, ho, t11, t12, t13, t3⟩
  simp only [wpq_Queue_Lines_l1, t11, t12, t13, t3, kBin_lss]
  by_cases hj : j < es.length
  · refine kSplit_t (decide_eq_true (by omega)) ?_
    have hget : es[j]? = some es[j] := List.getElem?_eq_getElem hj
    generalize es[j] = e at hget
    refine (h.he.sl.mono hs).idx encE_len hget (fun l off ha => ?_)
    rw [kPtr_p]
    refine ha.ldN (by rw [encE_len]) ?_
    refine newE (e := e) (fun g2 s2 hn2 h2 => ?_)
    refine kLd_of h2 rfl ?_
    refine ⟨rfl, by simp [reps], ?_⟩
    intro hn3
    have s3 := (Sub.refl g2).new hn3 (some (.cells (encI e.line) .exact))
    have hx : Sl encI 1 (upd g2 (n9 + 1) (some (.cells (encI e.line) .exact))) (.slice (some ⟨n9 + 1, 0, none⟩) 1 1) [e.line] := Sl.one rfl (upd_same _ _ _)
    have ho3 := (ho.mono s2).mono s3
    refine OwnS.append ho3 (hs.trans (s2.trans s3)) hx encI_cell (by decide) (by simp; omega) (by simp; omega) (fun v' g' n' hs' ho' _ _ => ?_)
    rw [kBin_add, wrap64_of (by omega) (by omega), show ((j : Nat) : Int) + 1 = ((j + 1 : Nat) : Int) by omega]
    refine ih (m - 1) _ _ _ (by omega) ⟨j + 1, v', by omega, hs', ?_, t11, t12, rfl, rfl⟩
    rw [take_add hget, List.map_append]
    exact ho'
  · refine kSplit_f (decide_eq_false (by omega)) ?_
    rw [List.take_of_length_le (by omega)] at ho
    exact aRet_of (Sub.refl _) (hK _ _ _ hs ho)
/-- the memory as it is read: the queue's words over the device's -/
def over (es : List En) (m : List Ln) : List Ln := es.foldl (fun m e => m.set e.line.toNat e.data) m
theorem over_len (es : List En) : ∀ (m : List Ln), (over es m).length = m.length := by
  induction es with
  | nil => intro m; rfl
  | cons e es ih => intro m; show (over es (m.set e.line.toNat e.data)).length = _; rw [ih, List.length_set]
theorem over_snoc (es : List En) (e : En) (m : List Ln) : over (es ++ [e]) m = (over es m).set e.line.toNat e.data := by simp [over]
def inR (es : List En) (k : Nat) : Prop := ∀ e ∈ es, 0 ≤ e.line ∧ e.line < k
theorem WImage_spec {o : Col Cl} {lq ld lm : Nat} {room : Int} {v : Value} {es : List En} {D : Dev} (h : QuH o g lq ld room v es) (hD : DevH o g ld lm D) (hne : D.mem ≠ []) (h64 : D.mem.length ≤ 64) (hr : inR es D.mem.length) (hlen : es.length < 1000000) {K : Cont}
    (hK : ∀ lb g' n', Sub g g' → g lb = none → g' lb = some (.cells ((over es D.mem).map encL).flatten (.loose 8)) → K (.slice (some ⟨lb, 0, none⟩) D.mem.length (LC + 8)) g' n') : AC wpq_Queue_Image_id [ptr lq 0] g n K := by
  refine ACalls.fold X0_mono ?_
  rw [← wpq_Queue_Image_eq]
  simp only [wpq_Queue_Image]
  rw [kBin_p_eql]
  refine kSplit_f rfl ?_
  rw [kNil_p, kPtr_p]
  refine kLd_of h.hq rfl ?_
  refine DImage_spec hD hne h64 (fun lb g1 n1 s1 hlb hb1 => ?_)
  rw [kNil_p, kPtr_p]
  refine kLd_of (s1.live h.hq) rfl ?_
  have hsl := h.he.sl.mono s1
  refine hsl.len ?_
  refine lfp_ind (m := es.length) (Inv := fun m t g9 n9 => ∃ j : Nat, m + j = es.length ∧ Sub g g9 ∧ g9 lb = some (.cells ((over (es.take j) D.mem).map encL).flatten (.loose 8)) ∧ t 16 = v ∧ t 17 = .int .i64 (es.length : Nat) ∧ t 18 = .int .i64 (j : Nat) ∧ t 3 = .slice (some ⟨lb, 0, none⟩) D.mem.length (LC + 8)) ?_
    ⟨0, by omega, s1, hb1, rfl, rfl, rfl, rfl⟩
  rintro I m t g9 n9 ih ⟨j, hm, hs, hb, t16, t17, t18, t3⟩
  simp only [wpq_Queue_Image_l1, t16, t17, t18, t3, kBin_lss]
  by_cases hj : j < es.length
  · refine kSplit_t (decide_eq_true (by omega)) ?_
    have hget : es[j]? = some es[j] := List.getElem?_eq_getElem hj
    have hrj := hr es[j] (List.getElem_mem hj)
    generalize es[j] = e at hget hrj
    refine (h.he.sl.mono hs).idx encE_len hget (fun l off ha => ?_)
    rw [kPtr_p]
    refine ha.ldN (by rw [encE_len]) ?_
    refine newE (e := e) (fun g2 s2 hn2 h2 => ?_)
    refine kLd_of h2 rfl ?_
    refine ldEd h2 ?_
    obtain ⟨k, hk⟩ : ∃ k : Nat, e.line = k := ⟨e.line.toNat, by omega⟩
    rw [hk]
    refine kIndexAddr_s (by omega) (by omega) ?_
    rw [kPtr_p]
    have e0 : 0 + (k : Int).toNat * 8 = k * 8 := by rw [Int.toNat_natCast, Nat.zero_add]
    rw [e0]
    refine ⟨encL_len _, Blk1.stN (enc := encL) encL_len encL_cell (s2.live hb) rfl (by rw [over_len]; omega) (fun hb2 => ?_)⟩
    rw [kBin_add, wrap64_of (by omega) (by omega), show ((j : Nat) : Int) + 1 = ((j + 1 : Nat) : Int) by omega]
    refine ih (m - 1) _ _ _ (by omega) ⟨j + 1, by omega, (hs.trans s2).upd_fresh _ hlb, ?_, t16, t17, rfl, t3⟩
    rw [take_add hget, over_snoc, hk, Int.toNat_natCast]
    exact hb2
  · refine kSplit_f (decide_eq_false (by omega)) ?_
    rw [List.take_of_length_le (by omega)] at hb
    exact aRet_of (Sub.refl _) (hK _ _ _ hs hlb hb)
def Dev.puts (D : Dev) (es : List En) : Dev := es.foldl (fun D e => D.put e.line e.data) D
theorem Dev.puts_snoc (D : Dev) (es : List En) (e : En) : D.puts (es ++ [e]) = (D.puts es).put e.line e.data := by simp [Dev.puts]
theorem Dev.put_len (D : Dev) (l : Int) (x : Ln) : (D.put l x).mem.length = D.mem.length ∧ (D.put l x).vol = D.vol := by
  unfold Dev.put; split
  · exact ⟨List.length_set, rfl⟩
  · exact ⟨rfl, rfl⟩
theorem Dev.puts_len (es : List En) : ∀ D : Dev, (D.puts es).mem.length = D.mem.length ∧ (D.puts es).vol = D.vol := by
  induction es with
  | nil => intro D; exact ⟨rfl, rfl⟩
  | cons e es ih =>
    intro D
    obtain ⟨a, b⟩ := ih (D.put e.line e.data)
    obtain ⟨c, d⟩ := D.put_len e.line e.data
    exact ⟨a.trans c, b.trans d⟩
def isMemo (c : Cl) : Prop := c = .dev ∨ c = .mem ∨ c = .que ∨ c = .ent
theorem kClear_nil {m c : Nat} {z : List Value} {K : Value → G → Prop} : kClear (.slice none m c) z g K = K undef g := rfl
theorem kSlice_nil0 {z : Nat} {K : Value → Prop} (k : K (.slice none 0 0)) : kSlice (.slice none 0 0) none (some (.int .i64 0)) none z K := by
  simp only [kSlice, if_pos (show 0 < LC by unfold LC; decide), kBound, kInt_i]
  exact ⟨by omega, by omega, by simpa using k⟩
theorem WFail_spec {o : Col Cl} {lq ld lm : Nat} {room : Int} {v : Value} {es : List En} {D : Dev} (hL : Live o g) (h : QuH o g lq ld room v es) (hD : DevH o g ld lm D) (hv : 1 ≤ D.vol ∧ D.vol < D.mem.length ∧ D.mem.length ≤ 64) (hlen : es.length < 1000000) {K : Cont}
    (hK : ∀ v' g' n', Kept isMemo o o g g' → Live o g' → QuH o g' lq ld room v' [] → DevH o g' ld lm (D.puts es).fail → K (.tuple #[]) g' n') : AC wpq_Queue_Fail_id [ptr lq 0] g n K := by
  refine ACalls.fold X0_mono ?_
  rw [← wpq_Queue_Fail_eq]
  simp only [wpq_Queue_Fail]
  rw [kBin_p_eql]
  refine kSplit_f rfl ?_
  rw [kNil_p, kPtr_p]
  refine kLd_of h.hq rfl ?_
  refine h.he.sl.len ?_
  have nq : ¬ isDev .que := by rintro (h | h) <;> cases h
  have ne : ¬ isDev .ent := by rintro (h | h) <;> cases h
  refine lfp_ind (m := es.length) (Inv := fun m t g9 n9 => ∃ j : Nat, m + j = es.length ∧ Kept isDev o o g g9 ∧ Live o g9 ∧ DevH o g9 ld lm (D.puts (es.take j)) ∧ t 0 = ptr lq 0 ∧ t 9 = v ∧ t 10 = .int .i64 (es.length : Nat) ∧ t 11 = .int .i64 (j : Nat)) ?_
    ⟨0, by omega, Kept.refl _ _ _, hL, hD, rfl, rfl, rfl, rfl⟩
  rintro I m t g9 n9 ih ⟨j, hm, hk, hl9, hd9, t0, t9, t10, t11⟩
  have hq9 := h.kept hk nq ne
  simp only [wpq_Queue_Fail_l1, t0, t9, t10, t11, kBin_lss]
  by_cases hj : j < es.length
  · refine kSplit_t (decide_eq_true (by omega)) ?_
    have hget : es[j]? = some es[j] := List.getElem?_eq_getElem hj
    generalize es[j] = e at hget
    refine hq9.he.sl.idx encE_len hget (fun l off ha => ?_)
    rw [kPtr_p]
    refine ha.ldN (by rw [encE_len]) ?_
    refine newE (e := e) (fun g2 s2 hn2 h2 => ?_)
    rw [kNil_p, kPtr_p]
    refine kLd_of (s2.live hq9.hq) rfl ?_
    refine kLd_of h2 rfl ?_
    refine ldEd h2 ?_
    refine DWrite_spec (hl9.sub s2) (hd9.mono s2) e.line e.data (fun g3 n3 k3 l3 d3 => ?_)
    rw [kBin_add, wrap64_of (by omega) (by omega), show ((j : Nat) : Int) + 1 = ((j + 1 : Nat) : Int) by omega]
    refine ih (m - 1) _ _ _ (by omega) ⟨j + 1, by omega, (hk.trans (Kept.of_sub hl9 s2)).trans k3, l3, ?_, t0, t9, t10, rfl⟩
    rw [take_add hget, Dev.puts_snoc]; exact d3
  · refine kSplit_f (decide_eq_false (by omega)) ?_
    rw [List.take_of_length_le (by omega)] at hd9
    have hk9 : Kept isMemo o o g g9 := hk.mono (fun c h => by rcases h with h | h; exact .inl h; exact .inr (.inl h))
    have fin : ∀ (g4 : G) (w : Value) (m : Nat), Kept isMemo o o g g4 → Live o g4 → g4 lq = some (.cells [ptr ld 0, .int .i64 room, v] .exact) → EV o g4 w [] → isCell w = true → DevH o g4 ld lm (D.puts es) →
        kSt g4 lq (0 + 2) w fun g5 => kNil (ptr lq 0) fun v38 => kPtr v38 fun l39 o39 => kLd g5 l39 (o39 + 0) fun v40 => AC nvm_Device_Fail_id [v40] g5 m fun v41 g6 n41 => aRet K (.tuple #[]) g6 n41 := by
      intro g4 w m k4 l4 q4 e4 c4 d4
      refine kSt_of q4 rfl (by show 2 < 3; decide) c4 ?_
      rw [kNil_p, kPtr_p]
      refine kLd_of (upd_same _ _ _) rfl ?_
      have k5 : Kept (· = Cl.que) o o g4 (upd g4 lq (some (.cells [ptr ld 0, .int .i64 room, w] .exact))) := Kept.upd (t := (· = Cl.que)) h.oq rfl _
      have d5 := d4.kept k5 (by intro h; cases h) (by intro h; cases h)
      have e5 := e4.kept k5 (by intro h; cases h)
      refine DFail_spec (l4.upd _ _) d5 (by rw [(D.puts_len es).1, (D.puts_len es).2]; exact hv) (fun g6 n6 k6 l6 d6 => ?_)
      refine aRet_of (Sub.refl _) (hK w _ _ ((k4.trans (k5.mono (fun c h => .inr (.inr (.inl h))))).trans (k6.mono (fun c h => by rcases h with h | h; exact .inl h; exact .inr (.inl h)))) l6 ?_ d6)
      exact (QuH.mk (room := room) (ld := ld) h.oq (upd_same _ _ _) e5).kept k6 nq ne
    have e0 : ∀ x, puts t [(12, x)] 0 = ptr lq 0 := fun x => t0
    simp only [wpq_Queue_Fail_j2, e0]
    rw [kNil_p, kPtr_p]
    refine kLd_of hq9.hq rfl ?_
    rcases hq9.he with ⟨rfl, rfl⟩ | ⟨le, rest, rfl, hoe, hge, hll⟩
    · rw [kClear_nil, kNil_p, kPtr_p]
      refine kLd_of hq9.hq rfl ?_
      refine kSlice_nil0 ?_
      rw [kNil_p, kPtr_p]
      exact fin g9 _ _ hk9 hl9 hq9.hq (.inl ⟨rfl, rfl⟩) rfl hd9
    · have hc : (es ++ rest).length < LC := by unfold LC; omega
      have rest2 : ∀ (g4 : G), Kept isMemo o o g g4 → Live o g4 → g4 lq = some (.cells [ptr ld 0, .int .i64 room, .slice (some ⟨le, 0, none⟩) es.length (es ++ rest).length] .exact) → DevH o g4 ld lm (D.puts es) → (∃ rs : List En, rs.length = (es ++ rest).length ∧ g4 le = some (.cells (rs.map encE).flatten .exact)) →
          kNil (ptr lq 0) fun v31 => kPtr v31 fun l32 o32 => kLd g4 l32 (o32 + 2) fun v33 => kSlice v33 none (some (.int .i64 0)) none 9 fun v34 => kNil (ptr lq 0) fun v35 => kPtr v35 fun l36 o36 => kSt g4 l36 (o36 + 2) v34 fun g5 => kNil (ptr lq 0) fun v38 => kPtr v38 fun l39 o39 => kLd g5 l39 (o39 + 0) fun v40 => AC nvm_Device_Fail_id [v40] g5 n9 fun v41 g6 n41 => aRet K (.tuple #[]) g6 n41 := by
        intro g4 k4 l4 q4 d4 ⟨rs, hrl, hrs⟩
        rw [kNil_p, kPtr_p]
        refine kLd_of q4 rfl ?_
        refine kSlice_to (f := 0) (.inl ⟨hc, by simp⟩) (Nat.zero_le _) ?_
        rw [kNil_p, kPtr_p]
        refine fin g4 _ _ k4 l4 q4 (.inr ⟨le, rs, ?_, hoe, hrs, by rw [List.nil_append, hrl]; exact hll⟩) rfl d4
        rw [List.nil_append, hrl]; rfl
      show kClear (.slice (some ⟨le, 0, none⟩) es.length (es ++ rest).length) (encE zeroE) g9 _
      simp only [kClear]
      by_cases h0 : es.length = 0
      · rw [if_pos (.inl h0)]
        exact rest2 g9 hk9 hl9 hq9.hq hd9 ⟨es ++ rest, rfl, hge⟩
      · rw [if_neg (by intro h; rcases h with h | h; exact h0 h; cases h)]
        have hfl : (((es ++ rest).map encE).flatten).length = (es ++ rest).length * 9 := flat_len encE 9 encE_len _
        have hrl : (reps es.length (encE zeroE)).length = es.length * 9 := by rw [flat_reps, flat_len encE 9 encE_len, List.length_replicate]
        refine kStN_of hge rfl (by rw [hfl, hrl, List.length_append]; omega) ?_ ?_
        · intro w hw
          rw [flat_reps] at hw
          obtain ⟨l, hl, hw⟩ := List.mem_flatten.1 hw
          obtain ⟨y, _, rfl⟩ := List.mem_map.1 hl
          exact encE_cell y w hw
        have e : splice ((es ++ rest).map encE).flatten 0 (reps es.length (encE zeroE)) = ((List.replicate es.length zeroE ++ rest).map encE).flatten := by
          have h3 := flat_splice (enc := encE) (z := 9) encE_len (es ++ rest) (List.replicate es.length zeroE) 0 (by simp)
          rw [Nat.zero_mul] at h3
          rw [flat_reps, h3]
          simp
        rw [e]
        have hne : le ≠ lq := fun e => by rw [e, h.oq] at hoe; cases hoe
        have k5 : Kept (· = Cl.ent) o o g9 (upd g9 le (some (.cells ((List.replicate es.length zeroE ++ rest).map encE).flatten .exact))) := Kept.upd (t := (· = Cl.ent)) hoe rfl _
        refine rest2 _ (hk9.trans (k5.mono (fun c h => .inr (.inr (.inr h))))) (hl9.upd _ _) ((k5.col _ _ h.oq (by intro h; cases h)).2.trans hq9.hq) (hd9.kept k5 (by intro h; cases h) (by intro h; cases h)) ⟨List.replicate es.length zeroE ++ rest, by simp, upd_same _ _ _⟩
end Go.Proofs.YtjpckcikmfihlaaGreat.Gen

namespace Go.Proofs.YtjpckcikmfihlaaGreat.Gen
open Go Go.Proofs.YtjpckcikmfihlaaGreat.Abs Go.RowKit
variable {g : G} {n : Nat}
theorem kept_plain {T : Type} {t : T → Prop} {o o' : Col T} {g g' : G} {l : Nat} {b : Blk} (k : Kept t o o' g g') (ho : o l = none) (h : g l = some b) : g' l = some b :=
  (unc_sub o' g').live (k.unc.live (show unc o g l = some b by rw [unc_none ho]; exact h))
/-- a line more for the memory -/
def pushW (es : List En) (D : Dev) (room line : Int) (x : Ln) : List En × Int :=
  if mayE D line ≠ 0 then (es, mayE D line) else if room ≤ es.length then (es, 13) else (es ++ [⟨line, x⟩], 0)
theorem kFill_e {line : Int} {x : Ln} {K : List Value → Prop} (k : K (encE ⟨line, x⟩)) : kFill (encE zeroE) [(0, none, .int .i64 line), (1, some 8, .agg (encL x).toArray)] K := by
  refine ⟨rfl, by rw [encE_len]; decide, encL_len x, by rw [List.length_set, encE_len]; decide, ?_⟩
  have : splice ((encE zeroE).set 0 (.int .i64 line)) 1 (encL x) = encE ⟨line, x⟩ := by
    unfold splice
    rw [encL_len]
    show [.int .i64 line] ++ encL x ++ (encL zeroL).drop 8 = _
    rw [List.drop_of_length_le (by rw [encL_len]; exact Nat.le_refl _), List.append_nil]; rfl
  rw [this]; exact k
theorem WPush_spec {o : Col Cl} {lq ld lm : Nat} {room : Int} {v : Value} {es : List En} {D : Dev} (hL : Live o g) (h : QuH o g lq ld room v es) (hD : DevH o g ld lm D) (line : Int) (x : Ln) (hlen : es.length < 999999) {K : Cont}
    (hK : ∀ v' o' g' n', Kept isMemo o o' g g' → Live o' g' → QuH o' g' lq ld room v' (pushW es D room line x).1 → DevH o' g' ld lm D → K (.int .i64 (pushW es D room line x).2) g' n') : AC wpq_Queue_Push_id [ptr lq 0, .int .i64 line, .agg (encL x).toArray] g n K := by
  refine ACalls.fold X0_mono ?_
  rw [← wpq_Queue_Push_eq]
  simp only [wpq_Queue_Push, wpq_Queue_Push_c, kAgg_a]
  intro hn
  have s1 : Sub g (upd g n (some (.cells (encL x) .exact))) := (Sub.refl g).new hn _
  have hx : upd g n (some (.cells (encL x) .exact)) n = some (.cells (encL x) .exact) := upd_same _ _ _
  generalize upd g n (some (.cells (encL x) .exact)) = g1 at s1 hx
  have hno : o n = none := hL.fresh hn
  have nq : ¬ isDev .que := by rintro (h | h) <;> cases h
  have ne : ¬ isDev .ent := by rintro (h | h) <;> cases h
  have toM : ∀ c, isDev c → isMemo c := fun c h => by rcases h with h | h; exact .inl h; exact .inr (.inl h)
  rw [kBin_p_eql]
  refine kSplit_f rfl ?_
  rw [kNil_p, kPtr_p]
  refine kLd_of (h.mono s1).hq rfl ?_
  refine DRead_spec (hL.sub s1) (hD.mono s1) line (fun g2 n2 k2 l2 d2 => ?_)
  generalize (if mayE D line = 0 then D.get line else zeroL) = y
  refine kExT (vs := [.agg (encL y).toArray, .int .i64 (mayE D line)]) rfl (kExT (vs := [.agg (encL y).toArray, .int .i64 (mayE D line)]) rfl ?_)
  intro hn3
  have s3 : Sub g2 (upd g2 n2 (some (.cells (encL zeroL) .exact))) := (Sub.refl g2).new hn3 _
  have hz3 : upd g2 n2 (some (.cells (encL zeroL) .exact)) n2 = some (.cells (encL zeroL) .exact) := upd_same _ _ _
  change kAgg (.agg (encL y).toArray) _
  rw [kAgg_a]
  change (encL y).length = 8 ∧ kStN (upd g2 n2 (some (.cells (encL zeroL) .exact))) n2 0 (encL y) _
  refine stLz hz3 (fun _ => ?_)
  have s4 : Sub g2 (upd (upd g2 n2 (some (.cells (encL zeroL) .exact))) n2 (some (.cells (encL y) .exact))) := s3.upd_fresh _ hn3
  generalize upd (upd g2 n2 (some (.cells (encL zeroL) .exact))) n2 (some (.cells (encL y) .exact)) = g4 at s4
  have k4 : Kept isDev o o g g4 := ((Kept.of_sub hL s1).trans k2).trans (Kept.of_sub l2 s4)
  have l4 := l2.sub s4
  have d4 := d2.mono s4
  have q4 : QuH o g4 lq ld room v es := ((h.mono s1).kept k2 nq ne).mono s4
  have x4 : g4 n = some (.cells (encL x) .exact) := s4.live (kept_plain k2 hno hx)
  rw [kBin_neq]
  by_cases he : mayE D line ≠ 0
  · have hp : pushW es D room line x = (es, mayE D line) := by unfold pushW; rw [if_pos he]
    rw [hp] at hK
    refine kSplit_t (decide_eq_true he) ?_
    exact aRet_of (Sub.refl _) (hK v o _ _ (k4.mono toM) l4 q4 d4)
  refine kSplit_f (decide_eq_false he) ?_
  rw [kNil_p, kPtr_p]
  refine kLd_of q4.hq rfl ?_
  refine q4.he.sl.len ?_
  rw [kNil_p, kPtr_p]
  refine kLd_of q4.hq rfl ?_
  rw [kBin_geq]
  by_cases hr : room ≤ es.length
  · have hp : pushW es D room line x = (es, 13) := by unfold pushW; rw [if_neg he, if_pos hr]
    rw [hp] at hK
    refine kSplit_t (decide_eq_true hr) ?_
    exact aRet_of (Sub.refl _) (hK v o _ _ (k4.mono toM) l4 q4 d4)
  refine kSplit_f (decide_eq_false hr) ?_
  have hp : pushW es D room line x = (es ++ [⟨line, x⟩], 0) := by unfold pushW; rw [if_neg he, if_neg hr]
  rw [hp] at hK
  have body : ∀ (t : Env) (m : Nat), t 0 = ptr lq 0 → t 1 = .int .i64 line → t 5 = ptr n 0 → wpq_Queue_Push_cut1 AC K (wpq_Queue_Push_cut2 AC K) t g4 m := by
    intro t m t0 t1 t5
    simp only [wpq_Queue_Push_cut1, t0, t1, t5]
    rw [kNil_p, kPtr_p]
    refine kLd_of q4.hq rfl ?_
    refine q4.he.sl.len ?_
    rw [kBin_add, wrap64_of (by omega) (by omega), show ((es.length : Nat) : Int) + 1 = ((es.length + 1 : Nat) : Int) by omega]
    refine ⟨by omega, by omega, by omega, by omega, ?_⟩
    intro hn5
    simp only [Int.toNat_natCast]
    have hrep : reps (es.length + 1) [.int .i64 0, .int .u64 0, .int .u64 0, .int .u64 0, .int .u64 0, .int .u64 0, .int .u64 0, .int .u64 0, .int .u64 0] = ((List.replicate (es.length + 1) zeroE).map encE).flatten := flat_reps (enc := encE) zeroE _
    rw [hrep]
    have hmo : o m = none := l4.fresh hn5
    have s5 : Sub g4 (upd g4 m (some (.cells ((List.replicate (es.length + 1) zeroE).map encE).flatten .exact))) := (Sub.refl g4).new hn5 _
    have hb5 : Blk1 encE (upd g4 m (some (.cells ((List.replicate (es.length + 1) zeroE).map encE).flatten .exact))) m (List.replicate (es.length + 1) zeroE) .exact := upd_same _ _ _
    have hnm : n ≠ m := fun e => by rw [← e, x4] at hn5; cases hn5
    have hqm : lq ≠ m := fun e => by rw [← e, q4.hq] at hn5; cases hn5
    have hdm : ld ≠ m := fun e => by have := d4.od; rw [e, hmo] at this; cases this
    have hmm : lm ≠ m := fun e => by have := d4.om; rw [e, hmo] at this; cases this
    have h5 : ∀ i, i ≠ m → upd g4 m (some (.cells ((List.replicate (es.length + 1) zeroE).map encE).flatten .exact)) i = g4 i := fun i hi => upd_ne _ _ hi
    generalize upd g4 m (some (.cells ((List.replicate (es.length + 1) zeroE).map encE).flatten .exact)) = g5 at s5 hb5 h5
    rw [kNil_p, kPtr_p]
    refine kLd_of (s5.live q4.hq) rfl ?_
    have q5 := q4.mono s5
    have copied : ∀ (J : Value → G → Prop), (∀ w g6, (∀ i, i ≠ m → g6 i = g5 i) → Blk1 encE g6 m (es ++ [zeroE]) .exact → J w g6) → kCopy (.slice (some ⟨m, 0, none⟩) (es.length + 1) (es.length + 1)) v 9 g5 J := by
      intro J hJ
      obtain ⟨av, cv, rfl⟩ : ∃ a c, v = .slice a es.length c := by obtain ⟨a, c, e, _⟩ := id q5.he.sl; exact ⟨a, c, e⟩
      simp only [kCopy]
      rw [Nat.min_eq_left (Nat.le_succ _)]
      refine Rd.elems q5.he.sl ⟨?_, ?_⟩
      · intro w hw
        obtain ⟨l, hl, hw⟩ := List.mem_flatten.1 hw
        obtain ⟨y, _, rfl⟩ := List.mem_map.1 hl
        exact encE_cell y w hw
      have hfl : (es.map encE).flatten.length = es.length * 9 := flat_len encE 9 encE_len _
      have e1 : (List.replicate (es.length + 1) zeroE) = List.replicate es.length zeroE ++ [zeroE] := by rw [List.replicate_succ']
      by_cases h0 : es = []
      · subst h0
        rw [if_pos (show (List.map encE []).flatten = [] from rfl)]
        refine hJ _ _ (fun _ _ => rfl) ?_
        simpa using hb5
      · have hpos : 0 < es.length := List.length_pos_iff.2 h0
        rw [if_neg (fun e => by rw [e] at hfl; simp at hfl; omega)]
        refine kStN_of hb5 rfl ?_ ?_ ?_
        · rw [hfl, flat_len encE 9 encE_len, List.length_replicate]; omega
        · intro w hw
          obtain ⟨l, hl, hw⟩ := List.mem_flatten.1 hw
          obtain ⟨y, _, rfl⟩ := List.mem_map.1 hl
          exact encE_cell y w hw
        have h3 := flat_splice (enc := encE) (z := 9) encE_len (List.replicate (es.length + 1) zeroE) es 0 (by simp)
        rw [Nat.zero_mul] at h3
        rw [h3]
        have e2 : List.take 0 (List.replicate (es.length + 1) zeroE) ++ es ++ List.drop (0 + es.length) (List.replicate (es.length + 1) zeroE) = es ++ [zeroE] := by
          rw [e1]; simp
        rw [e2]
        exact hJ _ _ (fun i hi => upd_ne _ _ hi) (upd_same _ _ _)
    refine copied _ (fun w g6 h6 hb6 => ?_)
    have x6 : g6 n = some (.cells (encL x) .exact) := by rw [h6 n hnm]; exact s5.live x4
    have q6 : g6 lq = some (.cells [ptr ld 0, .int .i64 room, v] .exact) := by rw [h6 lq hqm]; exact q5.hq
    rw [kNil_p, kPtr_p]
    refine kLd_of q6 rfl ?_
    have hlenv : ∀ {J : Value → Prop}, J (.int .i64 (es.length : Nat)) → kLen v J := fun hj => q5.he.sl.len hj
    refine hlenv ?_
    rw [kPtr_p]
    refine ldL x6 ?_
    refine kFill_e ?_
    refine kIndexAddr_s (by omega) (by omega) ?_
    rw [kPtr_p, kAgg_a]
    have e0 : 0 + ((es.length : Nat) : Int).toNat * 9 = es.length * 9 := by rw [Int.toNat_natCast, Nat.zero_add]
    rw [e0]
    refine ⟨encE_len _, Blk1.stN (enc := encE) encE_len encE_cell hb6 rfl (by simp) (fun hb7 => ?_)⟩
    have e3 : (es ++ [zeroE]).set es.length ⟨line, x⟩ = es ++ [(⟨line, x⟩ : En)] := by
      rw [List.set_append_right _ _ (Nat.le_refl _)]; simp
    rw [e3] at hb7 ⊢
    have g7q : upd g6 m (some (.cells ((es ++ [(⟨line, x⟩ : En)]).map encE).flatten .exact)) lq = some (.cells [ptr ld 0, .int .i64 room, v] .exact) := by rw [upd_ne _ _ hqm]; exact q6
    simp only [wpq_Queue_Push_cut2]
    show kNil (t 0) _
    rw [t0, kNil_p, kPtr_p]
    show kSt _ lq (0 + 2) (.slice (some ⟨m, 0, none⟩) (es.length + 1) (es.length + 1)) _
    refine kSt_of (cs := [ptr ld 0, .int .i64 room, v]) g7q rfl (by show 2 < 3; decide) rfl ?_
    have hqo := q4.oq
    have hmo2 : m ≠ lq := hqm.symm
    have hpt : ∀ i, i ≠ m → i ≠ lq → upd (upd g6 m (some (.cells ((es ++ [(⟨line, x⟩ : En)]).map encE).flatten .exact))) lq (some (.cells ([ptr ld 0, .int .i64 room, v].set (0 + 2) (.slice (some ⟨m, 0, none⟩) (es.length + 1) (es.length + 1))) .exact)) i = g4 i := fun i h1 h2 => by
      rw [upd_ne _ _ h2, upd_ne _ _ h1, h6 i h1, h5 i h1]
    have hatm : upd (upd g6 m (some (.cells ((es ++ [(⟨line, x⟩ : En)]).map encE).flatten .exact))) lq (some (.cells ([ptr ld 0, .int .i64 room, v].set (0 + 2) (.slice (some ⟨m, 0, none⟩) (es.length + 1) (es.length + 1))) .exact)) m = some (.cells ((es ++ [(⟨line, x⟩ : En)]).map encE).flatten .exact) := by
      rw [upd_ne _ _ hmo2, upd_same]
    have hatq : upd (upd g6 m (some (.cells ((es ++ [(⟨line, x⟩ : En)]).map encE).flatten .exact))) lq (some (.cells ([ptr ld 0, .int .i64 room, v].set (0 + 2) (.slice (some ⟨m, 0, none⟩) (es.length + 1) (es.length + 1))) .exact)) lq = some (.cells [ptr ld 0, .int .i64 room, .slice (some ⟨m, 0, none⟩) (es.length + 1) (es.length + 1)] .exact) := upd_same _ _ _
    generalize upd (upd g6 m (some (.cells ((es ++ [(⟨line, x⟩ : En)]).map encE).flatten .exact))) lq (some (.cells ([ptr ld 0, .int .i64 room, v].set (0 + 2) (.slice (some ⟨m, 0, none⟩) (es.length + 1) (es.length + 1))) .exact)) = gF at hpt hatm hatq
    have kF : Kept isMemo o (upd o m (some .ent)) g4 gF := by
      refine ⟨fun i => ?_, fun i c e ne => ?_, fun i c e ne => ?_⟩
      · by_cases h1 : i = m
        · subst h1; exact .inl (by rw [unc_none hmo]; exact hn5)
        · by_cases h2 : i = lq
          · subst h2; exact .inl (unc_some hqo)
          · have e : unc (upd o m (some .ent)) gF i = unc o g4 i := by unfold unc; rw [upd_ne _ _ h1, hpt i h1 h2]
            exact .inr e.symm
      · have h1 : i ≠ m := fun h => by rw [h, hmo] at e; cases e
        have h2 : i ≠ lq := fun h => by rw [h, hqo] at e; cases e; exact ne (.inr (.inr (.inl rfl)))
        exact ⟨by rw [upd_ne _ _ h1]; exact e, hpt i h1 h2⟩
      · by_cases h1 : i = m
        · subst h1; rw [upd_same] at e; cases e; exact absurd (.inr (.inr (.inr rfl))) ne
        · rw [upd_ne _ _ h1] at e; exact e
    have lF : Live (upd o m (some .ent)) gF := fun i c e => by
      by_cases h1 : i = m
      · subst h1; exact ⟨_, hatm⟩
      · by_cases h2 : i = lq
        · subst h2; exact ⟨_, hatq⟩
        · rw [upd_ne _ _ h1] at e; rw [hpt i h1 h2]; exact l4 i c e
    obtain ⟨r, w', hd4⟩ := d4.hd
    have hdq : ld ≠ lq := fun e => by have := d4.od; rw [e, hqo] at this; cases this
    have hmq : lm ≠ lq := fun e => by have := d4.om; rw [e, hqo] at this; cases this
    refine aRet_of (Sub.refl _) (hK _ (upd o m (some .ent)) _ _ ((k4.mono toM).trans kF) lF ⟨by rw [upd_ne _ _ hqm]; exact hqo, hatq, .inr ⟨m, [], ?_, upd_same _ _ _, ?_, ?_⟩⟩ ⟨by rw [upd_ne _ _ hdm]; exact d4.od, by rw [upd_ne _ _ hmm]; exact d4.om, ⟨r, w', by rw [hpt _ hdm hdq]; exact hd4⟩, by rw [hpt _ hmm hmq]; exact d4.hm⟩)
    · simp
    · rw [List.append_nil]; exact hatm
    · simp; omega
  exact body _ _ rfl rfl rfl
end Go.Proofs.YtjpckcikmfihlaaGreat.Gen

namespace Go.Proofs.YtjpckcikmfihlaaGreat.Gen
open Go Go.Proofs.YtjpckcikmfihlaaGreat.Abs Go.RowKit
variable {g : G} {n : Nat}
theorem At.cells9 {l off : Nat} {cs : List Value} (h : At g l off cs) (hl : cs.length = 9) : ∃ bs bk, g l = some (.cells bs bk) ∧ off + 9 ≤ bs.length ∧ (bs.drop off).take 9 = cs := by
  obtain ⟨bs, bk, h1, h2, h3⟩ := h
  exact ⟨bs, bk, h1, by omega, by rw [hl] at h3; exact h3⟩
theorem Drain1_spec {l : Nat} {line : Int} {e : En} (h : g l = some (.cells [.int .i64 line] .exact)) {K : Cont} (hK : ∀ g' n', Sub g g' → K (.bool (decide (e.line = line))) g' n') : AC wpq_Queue_Drain_1_id [.agg (encE e).toArray, ptr l 0] g n K := by
  refine ACalls.fold X0_mono ?_
  rw [← wpq_Queue_Drain_1_eq]
  simp only [wpq_Queue_Drain_1, kAgg_a]
  intro hn
  have s1 : Sub g (upd g n (some (.cells (encE e) .exact))) := (Sub.refl g).new hn _
  refine kLd_of (upd_same _ _ _) rfl ?_
  rw [kPtr_p]
  refine kLd_of (s1.live h) rfl ?_
  rw [kBin_eql]
  exact aRet_of (Sub.refl _) (hK _ _ s1)
theorem WIndex_spec {l : Nat} {line : Int} {v : Value} {es : List En} (h : g l = some (.cells [.int .i64 line] .exact)) (hv : Sl encE 9 g v es) (hlen : es.length < 1000000) {K : Cont}
    (hK : ∀ g' n', Sub g g' → K (idxV (es.findIdx? (fun e => decide (e.line = line)))) g' n') : AC slices_IndexFunc_wpq_entry_wpq_entry_id [v, .func (.func wpq_Queue_Drain_1_id) #[] #[ptr l 0]] g n K := by
  refine ACalls.fold X0_mono ?_
  rw [← slices_IndexFunc_wpq_entry_wpq_entry_eq]
  simp only [slices_IndexFunc_wpq_entry_wpq_entry]
  refine hv.len ?_
  refine lfp_ind (m := es.length) (Inv := fun m t g2 n2 => ∃ j : Nat, m + j = es.length ∧ Sub g g2 ∧ t 0 = v ∧ t 1 = .func (.func wpq_Queue_Drain_1_id) #[] #[ptr l 0] ∧ t 7 = .int .i64 (es.length : Nat) ∧ t 8 = .int .i64 (j : Nat) ∧ ∀ e ∈ es.take j, decide (e.line = line) = false) ?_ ⟨0, by omega, Sub.refl _, rfl, rfl, rfl, rfl, by simp⟩
  rintro I m t g2 n2 ih ⟨j, hm, hs, t0, t1, t7, t8, hall⟩
  simp only [slices_IndexFunc_wpq_entry_wpq_entry_l1, t0, t1, t7, t8, kBin_lss]
  by_cases hj : j < es.length
  · refine kSplit_t (decide_eq_true (by omega)) ?_
    have hget : es[j]? = some es[j] := List.getElem?_eq_getElem hj
    generalize es[j] = e at hget
    refine (hv.mono hs).idx encE_len hget (fun l2 o2 ha => ?_)
    rw [kPtr_p]
    refine ha.ldN (by rw [encE_len]) ?_
    show AC wpq_Queue_Drain_1_id [.agg (encE e).toArray, ptr l 0] g2 n2 _
    refine Drain1_spec (hs.live h) (fun g3 n3 s3 => ?_)
    by_cases he : e.line = line
    · refine kSplit_t (decide_eq_true he) ?_
      have hf := findIdx_some hget (decide_eq_true he) hall
      rw [hf] at hK
      refine aRet_of (Sub.refl _) ?_
      exact hK _ _ (hs.trans s3)
    · refine kSplit_f (decide_eq_false he) ?_
      rw [kBin_add, wrap64_of (by omega) (by omega), show ((j : Nat) : Int) + 1 = ((j + 1 : Nat) : Int) by omega]
      refine ih (m - 1) _ _ _ (by omega) ⟨j + 1, by omega, hs.trans s3, t0, t1, t7, rfl, fun x hx => ?_⟩
      rw [take_add hget] at hx
      rcases List.mem_append.1 hx with hx | hx
      · exact hall x hx
      · simp at hx; subst hx; exact decide_eq_false he
  · refine kSplit_f (decide_eq_false (by omega)) ?_
    rw [List.take_of_length_le (by omega)] at hall
    have hf : es.findIdx? (fun e => decide (e.line = line)) = none := by
      rw [List.findIdx?_eq_none_iff]; exact hall
    rw [hf] at hK
    exact aRet_of (Sub.refl _) (hK _ _ hs)
/-- a line written to the memory -/
def drainW (es : List En) (D : Dev) (line : Int) : List En × Dev × Int :=
  match es.findIdx? (fun e => decide (e.line = line)) with
  | none => (es, D, 14)
  | some k => (es.eraseIdx k, D.put line (es.getD k zeroE).data, 0)
/-- the queue's slice without element k, its block's cells behind that -/
theorem shift_spec {le : Nat} {es rest : List En} {k : Nat} {K : Cont} {lq ld : Nat} {room : Int} {t : Env} (hk : k < es.length) (hl : (es ++ rest).length < 1000000) (hne : le ≠ lq)
    (hg : g le = some (.cells ((es ++ rest).map encE).flatten .exact)) (hq : g lq = some (.cells [ptr ld 0, .int .i64 room, .slice (some ⟨le, 0, none⟩) es.length (es ++ rest).length] .exact)) (t0 : t 0 = ptr lq 0) (t5 : t 5 = .int .i64 (k : Nat))
    (hK : ∀ g', (∀ i, i ≠ le → i ≠ lq → g' i = g i) → g' lq = some (.cells [ptr ld 0, .int .i64 room, .slice (some ⟨le, 0, none⟩) (es.eraseIdx k).length (es.eraseIdx k ++ (zeroE :: rest)).length] .exact) → g' le = some (.cells ((es.eraseIdx k ++ (zeroE :: rest)).map encE).flatten .exact) → K (.int .i64 0) g' n) :
    wpq_Queue_Drain_cut1 AC K (wpq_Queue_Drain_cut2 AC K) t g n := by
  have hc : (es ++ rest).length < LC := by unfold LC; omega
  have hel0 : es.length < 1000000 := by rw [List.length_append] at hl; omega
  have hfl : ∀ xs : List En, (xs.map encE).flatten.length = xs.length * 9 := flat_len encE 9 encE_len
  have hcell : ∀ xs : List En, ∀ w ∈ (xs.map encE).flatten, isCell w = true := by
    intro xs w hw
    obtain ⟨l, hl, hw⟩ := List.mem_flatten.1 hw
    obtain ⟨y, _, rfl⟩ := List.mem_map.1 hl
    exact encE_cell y w hw
  simp only [wpq_Queue_Drain_cut1, t0, t5]
  rw [kNil_p, kPtr_p]
  refine kLd_of hq rfl ?_
  refine kSlice_from (f := k) (.inl ⟨hc, by simp⟩) (by omega) (fun o1 c1 h1 => ?_)
  have h1 := h1 hk
  rw [Nat.zero_add] at h1
  subst h1
  rw [kNil_p, kPtr_p]
  refine kLd_of hq rfl ?_
  rw [kBin_add, wrap64_of (by omega) (by omega), show ((k : Nat) : Int) + 1 = ((k + 1 : Nat) : Int) by omega]
  refine kSlice_from (f := k + 1) (.inl ⟨hc, by simp⟩) (by omega) (fun o2 c2 h2 => ?_)
  -- the copy
  have copied : ∀ (J : Value → G → Prop), (∀ g4, (∀ i, i ≠ le → g4 i = g i) → (∃ z : En, g4 le = some (.cells ((es.eraseIdx k ++ (z :: rest)).map encE).flatten .exact)) → J (.int .i64 ((es.length - (k + 1) : Nat) : Int)) g4) → kCopy (.slice (some ⟨le, k * 9, none⟩) (es.length - k) c1) (.slice (some ⟨le, o2, none⟩) (es.length - (k + 1)) c2) 9 g J := by
    intro J hJ
    simp only [kCopy]
    rw [Nat.min_eq_left (show es.length - (k + 1) ≤ es.length - k by omega)]
    have herase : es.eraseIdx k = es.take k ++ es.drop (k + 1) := List.eraseIdx_eq_take_drop_succ ..
    by_cases h0 : es.length - (k + 1) = 0
    · have hd : es.drop (k + 1) = [] := List.drop_eq_nil_of_le (by omega)
      simp only [kElems]
      rw [if_pos (by rw [h0])]
      refine ⟨by simp, ?_⟩
      rw [if_pos trivial]
      refine hJ g (fun _ _ => rfl) ⟨es[k], ?_⟩
      rw [herase, hd, List.append_nil]
      have : es = es.take k ++ [es[k]] := by
        have h3 := take_add (xs := es) (i := k) (List.getElem?_eq_getElem hk)
        rw [List.take_of_length_le (by omega)] at h3
        exact h3
      have e : es ++ rest = es.take k ++ (es[k] :: rest) := by rw [List.append_cons, ← this]
      rw [hg, e]
    · have ho2 := h2 (by omega)
      rw [Nat.zero_add] at ho2
      subst ho2
      simp only [kElems]
      rw [if_neg (by omega)]
      refine kLdN_of hg (by rw [hfl, List.length_append]; omega) ?_
      have hread : (((es ++ rest).map encE).flatten.drop ((k + 1) * 9)).take ((es.length - (k + 1)) * 9) = ((es.drop (k + 1)).map encE).flatten := by
        rw [flat_drop encE_len _ _ (by simp; omega), flat_take encE_len _ _ (by simp; omega)]
        rw [List.drop_append_of_le_length (by omega), List.take_left' (by simp)]
      rw [hread]
      refine ⟨hcell _, ?_⟩
      rw [if_neg (fun e => by have := hfl (es.drop (k + 1)); rw [e] at this; simp at this; omega)]
      refine kStN_of hg rfl (by rw [hfl, hfl, List.length_append, List.length_drop]; omega) (hcell _) ?_
      have hsp := flat_splice (enc := encE) (z := 9) encE_len (es ++ rest) (es.drop (k + 1)) k (by simp; omega)
      rw [hsp]
      refine hJ _ (fun i hi => upd_ne _ _ hi) ⟨es[es.length - 1]'(by omega), ?_⟩
      rw [upd_same, herase]
      congr 3
      have hlast : List.drop (k + (es.drop (k + 1)).length) (es ++ rest) = es[es.length - 1]'(by omega) :: rest := by
        rw [List.length_drop, show k + (es.length - (k + 1)) = es.length - 1 by omega, List.drop_append_of_le_length (by omega)]
        rw [drop_get (List.getElem?_eq_getElem (show es.length - 1 < es.length by omega)), List.drop_eq_nil_of_le (by omega)]
        rfl
      rw [hlast, List.take_append_of_le_length (by omega)]
  refine copied _ (fun g4 hpt ⟨z, h4⟩ => ?_)
  have hq4 : g4 lq = some (.cells [ptr ld 0, .int .i64 room, .slice (some ⟨le, 0, none⟩) es.length (es ++ rest).length] .exact) := by rw [hpt lq (Ne.symm hne)]; exact hq
  have hel : (es.eraseIdx k).length = es.length - 1 := by rw [List.length_eraseIdx, if_pos hk]
  simp only [wpq_Queue_Drain_cut2]
  show kNil (t 0) _
  rw [t0, kNil_p, kPtr_p]
  refine kLd_of hq4 rfl ?_
  show kBin .int .add (t 5) (.int .i64 ((es.length - (k + 1) : Nat) : Int)) _
  rw [t5, kBin_add, wrap64_of (by omega) (by omega), show ((k : Nat) : Int) + ((es.length - (k + 1) : Nat) : Int) = ((es.length - 1 : Nat) : Int) by omega]
  refine kSlice_from (f := es.length - 1) (.inl ⟨hc, by simp⟩) (by omega) (fun o3 c3 h3 => ?_)
  have ho3 := h3 (by omega)
  rw [Nat.zero_add] at ho3
  subst ho3
  show kClear (.slice (some ⟨le, (es.length - 1) * 9, none⟩) (es.length - (es.length - 1)) c3) (encE zeroE) g4 _
  rw [show es.length - (es.length - 1) = 1 by omega]
  simp only [kClear]
  rw [if_neg (by intro h; rcases h with h | h; cases h; cases h)]
  have hr1 : reps 1 (encE zeroE) = encE zeroE := by simp [reps]
  rw [hr1]
  refine Blk1.stN (enc := encE) (y := zeroE) encE_len encE_cell h4 rfl (by rw [List.length_append, hel]; simp) (fun hb5 => ?_)
  have e5 : (es.eraseIdx k ++ (z :: rest)).set (es.length - 1) zeroE = es.eraseIdx k ++ (zeroE :: rest) := by
    rw [List.set_append_right _ _ (by omega), hel, Nat.sub_self]; rfl
  rw [e5] at hb5 ⊢
  have hq5 : upd g4 le (some (.cells ((es.eraseIdx k ++ (zeroE :: rest)).map encE).flatten .exact)) lq = some (.cells [ptr ld 0, .int .i64 room, .slice (some ⟨le, 0, none⟩) es.length (es ++ rest).length] .exact) := by rw [upd_ne _ _ (Ne.symm hne)]; exact hq4
  show kNil (t 0) _
  rw [t0, kNil_p, kPtr_p]
  refine kLd_of hq5 rfl ?_
  show kBin .int .add (t 5) (.int .i64 ((es.length - (k + 1) : Nat) : Int)) _
  rw [t5, kBin_add, wrap64_of (by omega) (by omega), show ((k : Nat) : Int) + ((es.length - (k + 1) : Nat) : Int) = ((es.length - 1 : Nat) : Int) by omega]
  refine kSlice_to (f := es.length - 1) (.inl ⟨hc, by simp⟩) (by omega) ?_
  show kNil (t 0) _
  rw [t0, kNil_p, kPtr_p]
  refine kSt_of (cs := [ptr ld 0, .int .i64 room, .slice (some ⟨le, 0, none⟩) es.length (es ++ rest).length]) hq5 rfl (by show 2 < 3; decide) rfl ?_
  refine aRet_of (Sub.refl _) (hK _ (fun i h1 h2 => by rw [upd_ne _ _ h2, upd_ne _ _ h1]; exact hpt i h1) ?_ (by rw [upd_ne _ _ hne]; exact hb5))
  rw [upd_same, hel]
  have : (es.eraseIdx k ++ (zeroE :: rest)).length = (es ++ rest).length := by rw [List.length_append, hel]; simp; omega
  rw [this]; rfl
theorem WDrain_spec {o : Col Cl} {lq ld lm : Nat} {room : Int} {v : Value} {es : List En} {D : Dev} (hL : Live o g) (h : QuH o g lq ld room v es) (hD : DevH o g ld lm D) (line : Int) (hlen : es.length < 1000000) {K : Cont}
    (hK : ∀ v' g' n', Kept isMemo o o g g' → Live o g' → QuH o g' lq ld room v' (drainW es D line).1 → DevH o g' ld lm (drainW es D line).2.1 → K (.int .i64 (drainW es D line).2.2) g' n') : AC wpq_Queue_Drain_id [ptr lq 0, .int .i64 line] g n K := by
  refine ACalls.fold X0_mono ?_
  rw [← wpq_Queue_Drain_eq]
  simp only [wpq_Queue_Drain, wpq_Queue_Drain_c]
  refine ⟨rfl, ?_⟩
  intro hn
  have s1 : Sub g (upd g n (some (.cells [.int .i64 line] .exact))) := (Sub.refl g).new hn _
  have hx : upd g n (some (.cells [.int .i64 line] .exact)) n = some (.cells [.int .i64 line] .exact) := upd_same _ _ _
  generalize upd g n (some (.cells [.int .i64 line] .exact)) = g1 at s1 hx
  have toM : ∀ c, isDev c → isMemo c := fun c h => by rcases h with h | h; exact .inl h; exact .inr (.inl h)
  have nq : ¬ isDev .que := by rintro (h | h) <;> cases h
  have ne : ¬ isDev .ent := by rintro (h | h) <;> cases h
  rw [kBin_p_eql]
  refine kSplit_f rfl ?_
  have q1 := h.mono s1
  rw [kNil_p, kPtr_p]
  refine kLd_of q1.hq rfl ?_
  refine WIndex_spec hx q1.he.sl hlen (fun g2 n2 s2 => ?_)
  have s12 := s1.trans s2
  have q2 := h.mono s12
  have l2 := hL.sub s12
  have d2 := hD.mono s12
  cases hf : es.findIdx? (fun e => decide (e.line = line)) with
  | none =>
    have hdr : drainW es D line = (es, D, 14) := by unfold drainW; rw [hf]
    rw [hdr] at hK
    show kBin .int .lss (.int .i64 (-1)) (.int .i64 0) _
    rw [kBin_lss]
    refine kSplit_t rfl ?_
    exact aRet_of (Sub.refl _) (hK v _ _ (Kept.of_sub hL s12) l2 q2 d2)
  | some k =>
    have hdr : drainW es D line = (es.eraseIdx k, D.put line (es.getD k zeroE).data, 0) := by unfold drainW; rw [hf]
    rw [hdr] at hK
    have hk : k < es.length := by
      rw [List.findIdx?_eq_some_iff_getElem] at hf; exact hf.1
    have hget : es[k]? = some (es.getD k zeroE) := by rw [List.getD_eq_getElem?_getD, List.getElem?_eq_getElem hk]; rfl
    generalize es.getD k zeroE = e at hget hK
    show kBin .int .lss (.int .i64 (k : Nat)) (.int .i64 0) _
    rw [kBin_lss]
    refine kSplit_f (decide_eq_false (by omega)) ?_
    rw [kNil_p, kPtr_p]
    refine kLd_of q2.hq rfl ?_
    refine kLd_of (s2.live hx) rfl ?_
    rw [kNil_p, kPtr_p]
    refine kLd_of q2.hq rfl ?_
    refine q2.he.sl.idx encE_len hget (fun l3 o3 ha => ?_)
    rw [kPtr_p]
    have hld : ∀ {J : List Value → Prop}, J (encL e.data) → kLdN g2 l3 (o3 + 1) 8 J := by
      intro J hJ
      obtain ⟨cs, bk, hg3, hlen3, hcs⟩ := At.cells9 ha (encE_len e)
      refine kLdN_of hg3 (by omega) ?_
      have : (cs.drop (o3 + 1)).take 8 = encL e.data := by
        have h3 := congrArg (fun t => (t.drop 1).take 8) hcs
        rw [List.drop_take, List.drop_drop, List.take_take] at h3
        have e1 : min 8 (9 - 1) = 8 := by decide
        rw [e1] at h3
        rw [h3]
        show (encL e.data).take 8 = encL e.data
        exact List.take_of_length_le (by rw [encL_len]; exact Nat.le_refl _)
      rw [this]; exact hJ
    refine hld ?_
    refine DWrite_spec l2 d2 line e.data (fun g4 n4 k4 l4 d4 => ?_)
    have q4 := q2.kept k4 nq ne
    have k04 : Kept isMemo o o g g4 := ((Kept.of_sub hL s12).trans k4).mono toM
    rcases q4.he with ⟨_, he⟩ | ⟨le, rest, rfl, hoe, hge, hll⟩
    · subst he; exact absurd hk (by simp)
    have hne : le ≠ lq := fun e => by rw [e, h.oq] at hoe; cases hoe
    refine shift_spec hk hll hne hge q4.hq rfl rfl (fun g5 hpt hq5 hg5 => ?_)
    have k5 : Kept isMemo o o g4 g5 := by
      refine ⟨fun i => ?_, fun i c e ne => ⟨e, ?_⟩, fun _ _ e _ => e⟩
      · cases e : o i with
        | some c => exact .inl (unc_some e)
        | none =>
          rw [unc_none e, unc_none e, hpt i (fun h => by rw [h, hoe] at e; cases e) (fun h' => by rw [h', h.oq] at e; cases e)]
          exact .inr rfl
      · exact hpt i (fun h => by subst h; rw [hoe] at e; cases e; exact ne (.inr (.inr (.inr rfl)))) (fun h' => by subst h'; rw [h.oq] at e; cases e; exact ne (.inr (.inr (.inl rfl))))
    have l5 : Live o g5 := fun i c e => by
      by_cases h1 : i = le
      · subst h1; exact ⟨_, hg5⟩
      · by_cases h2 : i = lq
        · subst h2; exact ⟨_, hq5⟩
        · rw [hpt i h1 h2]; exact l4 i c e
    obtain ⟨r, w, hd4⟩ := d4.hd
    have hd1 : ld ≠ le := fun e => by have := d4.od; rw [e, hoe] at this; cases this
    have hd2 : ld ≠ lq := fun e => by have := d4.od; rw [e, h.oq] at this; cases this
    have hm1 : lm ≠ le := fun e => by have := d4.om; rw [e, hoe] at this; cases this
    have hm2 : lm ≠ lq := fun e => by have := d4.om; rw [e, h.oq] at this; cases this
    have hll' : (es.eraseIdx k ++ (zeroE :: rest)).length < 1000000 := by
      have : (es.eraseIdx k).length = es.length - 1 := by rw [List.length_eraseIdx, if_pos hk]
      rw [List.length_append] at hll ⊢
      rw [this]; simp; omega
    exact hK _ _ _ (k04.trans k5) l5 ⟨h.oq, hq5, .inr ⟨le, zeroE :: rest, rfl, hoe, hg5, hll'⟩⟩ ⟨d4.od, d4.om, ⟨r, w, by rw [hpt _ hd1 hd2]; exact hd4⟩, by rw [hpt _ hm1 hm2]; exact d4.hm⟩
end Go.Proofs.YtjpckcikmfihlaaGreat.Gen

namespace Go.Proofs.YtjpckcikmfihlaaGreat.Gen
open Go Go.Proofs.YtjpckcikmfihlaaGreat.Abs Go.RowKit
variable {g : G} {n : Nat}
/-! masks of cores -/
abbrev Mask := BitVec 8
def encMask (m : Mask) : Value := .int .u8 (m.toNat : Nat)
def bitM (i : Int) : Mask := if 0 ≤ i ∧ i < 8 then 1#8 <<< i.toNat else 0#8
theorem wrap_u8 {x : Nat} (h : x < 256) : IntKind.u8.wrap (x : Nat) = (x : Nat) := by
  have : ∀ y : Fin 256, IntKind.u8.wrap (y.1 : Nat) = (y.1 : Nat) := by decide +kernel
  exact this ⟨x, h⟩
theorem ofInt_mask (m : Mask) : BitVec.ofInt 8 (m.toNat : Nat) = m := by
  rw [BitVec.ofInt_natCast, BitVec.ofNat_toNat]; simp
theorem kAnd_m {a b : Mask} {K : Value → Prop} (k : K (encMask (a &&& b))) : kBin .int .and (encMask a) (encMask b) K := by
  show kBin .int .and (.int .u8 (a.toNat : Nat)) (.int .u8 (b.toNat : Nat)) K
  simp only [kBin, kIntBin, true_and]
  show K (.int .u8 (IntKind.u8.wrap ((BitVec.ofInt 8 (a.toNat : Nat) &&& BitVec.ofInt 8 (b.toNat : Nat)).toNat : Nat)))
  rw [ofInt_mask, ofInt_mask, wrap_u8 (BitVec.isLt _)]; exact k
theorem kOr_m {a b : Mask} {K : Value → Prop} (k : K (encMask (a ||| b))) : kBin .int .or (encMask a) (encMask b) K := by
  show kBin .int .or (.int .u8 (a.toNat : Nat)) (.int .u8 (b.toNat : Nat)) K
  simp only [kBin, kIntBin, true_and]
  show K (.int .u8 (IntKind.u8.wrap ((BitVec.ofInt 8 (a.toNat : Nat) ||| BitVec.ofInt 8 (b.toNat : Nat)).toNat : Nat)))
  rw [ofInt_mask, ofInt_mask, wrap_u8 (BitVec.isLt _)]; exact k
theorem kAndNot_m {a b : Mask} {K : Value → Prop} (k : K (encMask (a &&& ~~~b))) : kBin .int .andNot (encMask a) (encMask b) K := by
  show kBin .int .andNot (.int .u8 (a.toNat : Nat)) (.int .u8 (b.toNat : Nat)) K
  simp only [kBin, kIntBin, true_and]
  show K (.int .u8 (IntKind.u8.wrap ((BitVec.ofInt 8 (a.toNat : Nat) &&& ~~~BitVec.ofInt 8 (b.toNat : Nat)).toNat : Nat)))
  rw [ofInt_mask, ofInt_mask, wrap_u8 (BitVec.isLt _)]; exact k
theorem kNe0_m {a : Mask} {K : Value → Prop} (k : K (.bool (decide (a ≠ 0#8)))) : kBin .int .neq (encMask a) (.int .u8 0) K := by
  show kBin .int .neq (.int .u8 (a.toNat : Nat)) (.int .u8 0) K
  rw [kBin_neq]
  have : decide (((a.toNat : Nat) : Int) ≠ 0) = decide (a ≠ 0#8) := by
    rw [decide_eq_decide]
    constructor
    · intro h e; apply h; rw [e]; rfl
    · intro h e; apply h; apply BitVec.eq_of_toNat_eq; simpa using e
  rw [this]; exact k
theorem kEq0_m {a : Mask} {K : Value → Prop} (k : K (.bool (decide (a = 0#8)))) : kBin .int .eql (encMask a) (.int .u8 0) K := by
  show kBin .int .eql (.int .u8 (a.toNat : Nat)) (.int .u8 0) K
  rw [kBin_eql]
  have : decide (((a.toNat : Nat) : Int) = 0) = decide (a = 0#8) := by
    rw [decide_eq_decide]
    constructor
    · intro e; apply BitVec.eq_of_toNat_eq; simpa using e
    · intro e; rw [e]; rfl
  rw [this]; exact k
theorem Bit_spec (i : Int) {K : Cont} (hK : ∀ n', K (encMask (bitM i)) g n') : AC geom_Bit_id [.int .i64 i] g n K := by
  refine ACalls.fold X0_mono ?_
  rw [← geom_Bit_eq]
  simp only [geom_Bit]
  rw [kBin_lss]
  by_cases h0 : i < 0
  · have e : bitM i = 0#8 := by unfold bitM; rw [if_neg (by omega)]
    rw [e] at hK
    exact kSplit_t (decide_eq_true h0) (aRet_of (Sub.refl _) (hK _))
  refine kSplit_f (decide_eq_false h0) ?_
  rw [kBin_geq]
  by_cases h8 : (8 : Int) ≤ i
  · have e : bitM i = 0#8 := by unfold bitM; rw [if_neg (by omega)]
    rw [e] at hK
    exact kSplit_t (decide_eq_true h8) (aRet_of (Sub.refl _) (hK _))
  refine kSplit_f (decide_eq_false h8) ?_
  simp only [kBin, kIntBin]
  refine ⟨trivial, by omega, ?_⟩
  obtain ⟨k, rfl⟩ : ∃ k : Nat, i = k := ⟨i.toNat, by omega⟩
  have : ∀ k : Fin 8, IntKind.u8.wrap (1 * 2 ^ (min ((k.1 : Nat) : Int).toNat IntKind.u8.bits)) = ((bitM (k.1 : Nat)).toNat : Nat) := by decide +kernel
  have h3 := this ⟨k, by omega⟩
  simp only at h3
  show aRet K (.int .u8 _) g n
  rw [h3]
  exact aRet_of (Sub.refl _) (hK _)
def hasM (m : Mask) (i : Int) : Bool := decide (m &&& bitM i ≠ 0#8)
theorem Has_spec (m : Mask) (i : Int) {K : Cont} (hK : ∀ n', K (.bool (hasM m i)) g n') : AC geom_Has_id [encMask m, .int .i64 i] g n K := by
  refine ACalls.fold X0_mono ?_
  rw [← geom_Has_eq]
  simp only [geom_Has]
  refine Bit_spec i (fun n1 => ?_)
  refine kAnd_m ?_
  refine kNe0_m ?_
  exact aRet_of (Sub.refl _) (hK _)
/-- the cores of a mask -/
def coresM (m : Mask) : List Int := ((List.range 8).filter (fun i => hasM m (i : Nat))).map (fun i => ((i : Nat) : Int))
theorem Cores_spec (m : Mask) {K : Cont} (hK : ∀ v' g' n', Sub g g' → OwnS encI 1 g g' v' (coresM m) → K v' g' n') : AC geom_Cores_id [encMask m] g n K := by
  refine ACalls.fold X0_mono ?_
  rw [← geom_Cores_eq]
  simp only [geom_Cores]
  refine lfp_ind (m := 8) (Inv := fun q t g9 n9 => ∃ (j : Nat) (w : Value), q + j = 8 ∧ Sub g g9 ∧ OwnS encI 1 g g9 w (((List.range j).filter (fun i => hasM m (i : Nat))).map (fun i => ((i : Nat) : Int))) ∧ t 0 = encMask m ∧ t 3 = w ∧ t 5 = .int .i64 (j : Nat)) ?_
    ⟨0, .slice none 0 0, rfl, Sub.refl _, OwnS.nil, rfl, rfl, rfl⟩
  rintro I q t g9 n9 ih ⟨j, w, hm, hs, ho, t0, t3, t5⟩
  simp only [geom_Cores_l1, t0, t3, t5, kBin_lss]
  by_cases hj : j < 8
  · refine kSplit_t (decide_eq_true (by omega)) ?_
    refine Has_spec m (j : Nat) (fun n1 => ?_)
    have hl : (((List.range j).filter (fun i => hasM m (i : Nat))).map (fun i => ((i : Nat) : Int))).length ≤ 8 := by
      rw [List.length_map]
      have := List.length_filter_le (fun i => hasM m (i : Nat)) (List.range j)
      rw [List.length_range] at this; omega
    cases hb : hasM m (j : Nat) with
    | true =>
      refine kSplit_t rfl ?_
      refine ⟨rfl, by simp [reps], ?_⟩
      intro hn3
      have s3 := (Sub.refl g9).new hn3 (some (.cells (encI (j : Nat)) .exact))
      have hx : Sl encI 1 (upd g9 n1 (some (.cells (encI (j : Nat)) .exact))) (.slice (some ⟨n1, 0, none⟩) 1 1) [((j : Nat) : Int)] := Sl.one rfl (upd_same _ _ _)
      refine OwnS.append (ho.mono s3) (hs.trans s3) hx encI_cell (by decide) (by simp only [List.length_singleton]; omega) (by simp only [List.length_singleton]; omega) (fun v' g' n' hs' ho' _ _ => ?_)
      rw [kBin_add, wrap64_of (by omega) (by omega), show ((j : Nat) : Int) + 1 = ((j + 1 : Nat) : Int) by omega]
      refine ih (q - 1) _ _ _ (by omega) ⟨j + 1, v', by omega, hs', ?_, t0, rfl, rfl⟩
      rw [List.range_succ, List.filter_append, List.map_append]
      simp only [List.filter_cons, List.filter_nil, hb, if_true, List.map_cons, List.map_nil]
      exact ho'
    | false =>
      refine kSplit_f rfl ?_
      rw [kBin_add, wrap64_of (by omega) (by omega), show ((j : Nat) : Int) + 1 = ((j + 1 : Nat) : Int) by omega]
      refine ih (q - 1) _ _ _ (by omega) ⟨j + 1, w, by omega, hs, ?_, t0, t3, rfl⟩
      rw [List.range_succ, List.filter_append, List.map_append]
      simp only [List.filter_cons, List.filter_nil, hb, Bool.false_eq_true, if_false, List.map_nil, List.append_nil]
      exact ho
  · refine kSplit_f (decide_eq_false (by omega)) ?_
    obtain rfl : j = 8 := by omega
    exact aRet_of (Sub.refl _) (hK _ _ _ hs ho)
end Go.Proofs.YtjpckcikmfihlaaGreat.Gen

namespace Go.Proofs.YtjpckcikmfihlaaGreat.Abs
open Go Go.RowKit
variable {g : G} {n : Nat}
/-! words for walks that go by themselves: each can be given to refine -/
section
variable {k : IntKind} {a b : Int} {K : Value → Prop}
theorem wEql (h : K (.bool (decide (a = b)))) : kBin .int .eql (.int k a) (.int k b) K := by rw [kBin_eql]; exact h
theorem wNeq (h : K (.bool (decide (a ≠ b)))) : kBin .int .neq (.int k a) (.int k b) K := by rw [kBin_neq]; exact h
theorem wLss (h : K (.bool (decide (a < b)))) : kBin .int .lss (.int k a) (.int k b) K := by rw [kBin_lss]; exact h
theorem wLeq (h : K (.bool (decide (a ≤ b)))) : kBin .int .leq (.int k a) (.int k b) K := by rw [kBin_leq]; exact h
theorem wGtr (h : K (.bool (decide (b < a)))) : kBin .int .gtr (.int k a) (.int k b) K := by rw [kBin_gtr]; exact h
theorem wGeq (h : K (.bool (decide (b ≤ a)))) : kBin .int .geq (.int k a) (.int k b) K := by rw [kBin_geq]; exact h
theorem wNot {p : Bool} (h : K (.bool !p)) : kUn .not (.bool p) K := h
theorem wFill {cs : List Value} {J : List Value → Prop} (h : J cs) : kFill cs [] J := h
theorem wNilP {l o : Nat} (h : K (.bool true)) : kBin .ptr .neq (ptr l o) (.pointer none) K := h
theorem wNilQ {l o : Nat} (h : K (.bool false)) : kBin .ptr .eql (ptr l o) (.pointer none) K := h
theorem wAgg {cs : List Value} {J : List Value → Prop} (h : J cs) : kAgg (.agg cs.toArray) J := h
theorem wExt {vs : List Value} {i : Nat} {v : Value} (hv : vs[i]? = some v) (h : K v) : kExtract (.tuple vs.toArray) i K := kGet_of hv h
end
theorem kSp_d {p : Prop} [Decidable p] {A B : Prop} (hA : p → A) (hB : ¬ p → B) : kSplit (.bool (decide p)) A B := by
  by_cases h : p
  · simp only [h, decide_true]; exact hA h
  · simp only [h, decide_false]; exact hB h
theorem kSp_b {b : Bool} {A B : Prop} (hA : b = true → A) (hB : b = false → B) : kSplit (.bool b) A B := by
  cases b
  · exact hB rfl
  · exact hA rfl
theorem lfE {K : Cont} {b G0 : Bool} {g1 : G} {m : Nat} (hK : ∀ n', K (.bool G0) g1 n') (h : b = G0) : aRet K (.bool b) g1 m := by subst h; exact aRet_of (Sub.refl _) (hK _)
end Go.Proofs.YtjpckcikmfihlaaGreat.Abs

namespace Go.Proofs.YtjpckcikmfihlaaGreat.Gen
open Go Go.Proofs.YtjpckcikmfihlaaGreat.Abs Go.RowKit
variable {g : G} {n : Nat}
/-! entries of the directory -/
structure Ent where
  here : Bool
  dirty : Bool
  data : Ln
  owner : Int
  share : Mask
  busy : Int
  who : Int
  wait : Mask
def encEnt (e : Ent) : List Value := [.bool e.here, .bool e.dirty] ++ encL e.data ++ [.int .i64 e.owner, encMask e.share, .int .i64 e.busy, .int .i64 e.who, encMask e.wait]
theorem encEnt_len (e : Ent) : (encEnt e).length = 15 := by simp [encEnt, encL_len]
theorem encEnt_cell (e : Ent) : ∀ v ∈ encEnt e, isCell v = true := by
  intro v hv
  unfold encEnt at hv
  rcases List.mem_append.1 hv with hv | hv
  · rcases List.mem_append.1 hv with hv | hv
    · simp at hv; rcases hv with rfl | rfl <;> rfl
    · exact encL_cell _ _ hv
  · simp [encMask] at hv; rcases hv with rfl | rfl | rfl | rfl | rfl <;> rfl
def emptyEnt : Ent := ⟨false, false, zeroL, -1, 0#8, 0, 0, 0#8⟩
theorem ent_data (e : Ent) : ((encEnt e).drop 2).take 8 = encL e.data := by
  unfold encEnt
  rw [List.append_assoc]
  show (encL e.data ++ _).take 8 = _
  exact List.take_left' (encL_len _)
theorem ent_tail (e : Ent) (i : Nat) : (encEnt e)[10 + i]? = [Value.int .i64 e.owner, encMask e.share, .int .i64 e.busy, .int .i64 e.who, encMask e.wait][i]? := by
  unfold encEnt
  rw [List.getElem?_append_right (by simp [encL_len])]
  simp [encL_len]
theorem ent_10 (e : Ent) : (encEnt e)[10]? = some (.int .i64 e.owner) := ent_tail e 0
theorem ent_11 (e : Ent) : (encEnt e)[11]? = some (encMask e.share) := ent_tail e 1
theorem ent_12 (e : Ent) : (encEnt e)[12]? = some (.int .i64 e.busy) := ent_tail e 2
theorem ent_13 (e : Ent) : (encEnt e)[13]? = some (.int .i64 e.who) := ent_tail e 3
theorem ent_14 (e : Ent) : (encEnt e)[14]? = some (encMask e.wait) := ent_tail e 4
theorem ent_0 (e : Ent) : (encEnt e)[0]? = some (.bool e.here) := rfl
theorem ent_1 (e : Ent) : (encEnt e)[1]? = some (.bool e.dirty) := rfl
def coreB (i : Int) : Bool := decide (0 ≤ i ∧ i < 8)
theorem core_spec (i : Int) {K : Cont} (hK : ∀ n', K (.bool (coreB i)) g n') : AC dir_core_id [.int .i64 i] g n K := by
  refine ACalls.fold X0_mono ?_
  rw [← dir_core_eq]
  simp only [dir_core, kBin_geq, kBin_lss]
  by_cases h0 : 0 ≤ i
  · refine kSplit_t (decide_eq_true h0) ?_
    have e : coreB i = decide (i < 8) := by unfold coreB; simp [h0]
    rw [e] at hK
    exact aRet_of (Sub.refl _) (hK _)
  · refine kSplit_f (decide_eq_false h0) ?_
    have e : coreB i = false := by unfold coreB; simp [h0]
    rw [e] at hK
    exact aRet_of (Sub.refl _) (hK _)
theorem Empty_spec {K : Cont} (hK : ∀ n', K (.agg (encEnt emptyEnt).toArray) g n') : AC dir_Empty_id [] g n K := AC_ev (.agg (encEnt emptyEnt).toArray) 1000 100 (by kernel_rfl) (by kernel_rfl) (by kernel_rfl) hK
end Go.Proofs.YtjpckcikmfihlaaGreat.Gen

namespace Go.Proofs.YtjpckcikmfihlaaGreat.Gen
open Go Go.Proofs.YtjpckcikmfihlaaGreat.Abs Go.RowKit
variable {g : G} {n : Nat}
theorem neL (a b : Ln) (K : Value → Prop) (h : K (.bool (decide (a ≠ b)))) : kBin (.agg [.i, .i, .i, .i, .i, .i, .i, .i]) .neq (.agg (encL a).toArray) (.agg (encL b).toArray) K := by
  have e := leaves_ints (k := .u64) a.1 b.1 (by rw [a.2, b.2])
  rw [a.2] at e
  have e' : leavesEq [.i, .i, .i, .i, .i, .i, .i, .i] (encL a) (encL b) = some (decide (a = b)) := by
    have : (decide (a = b)) = decide (a.1 = b.1) := by rw [Bool.eq_iff_iff]; simp [Subtype.ext_iff]
    rw [this]; exact e
  show (match leavesEq [.i, .i, .i, .i, .i, .i, .i, .i] (encL a) (encL b) with | some r => kCmp .neq r K | none => False)
  rw [e']
  have : decide (a ≠ b) = !decide (a = b) := by simp
  rw [this] at h
  exact h
/-- is anybody in the mask? -/
def nz (m : Mask) : Bool := decide (m ≠ 0#8)
theorem nz_t {m : Mask} : nz m = true ↔ m ≠ 0#8 := by unfold nz; simp
theorem nz_f {m : Mask} : nz m = false ↔ m = 0#8 := by unfold nz; simp
theorem wNz {a : Mask} {K : Value → Prop} (k : K (.bool (nz a))) : kBin .int .neq (encMask a) (.int .u8 0) K := kNe0_m k
theorem wZr {a : Mask} {K : Value → Prop} (k : K (.bool (!nz a))) : kBin .int .eql (encMask a) (.int .u8 0) K := by
  refine kEq0_m ?_
  have : decide (a = 0#8) = !nz a := by unfold nz; simp
  rw [this]; exact k
/-- does it wait for one that has nothing? -/
def strayE (e : Ent) : Bool := nz (e.wait &&& ~~~(e.share ||| bitM e.owner))
/-- can an entry be? -/
def goodE (e : Ent) : Bool :=
  if e.owner < -1 then false else if 8 ≤ e.owner then false else if 0 ≤ e.owner ∧ nz e.share = true then false else
  if e.here = false ∧ (e.dirty = true ∨ 0 ≤ e.owner ∨ nz e.share = true ∨ e.busy ≠ 0 ∨ e.data ≠ zeroL) then false else
  if strayE e = true then false else
  if e.busy = 0 then decide (e.who = 0) && !nz e.wait else if e.busy = 1 ∨ e.busy = 2 then coreB e.who && nz e.wait else if e.busy = 4 ∨ e.busy = 5 then coreB e.who else false
theorem ldEnt {l : Nat} {e : Ent} {bk : BK} {K : List Value → Prop} (h : g l = some (.cells (encEnt e) bk)) (k : K (encL e.data)) : kLdN g l (0 + 2) 8 K := by
  refine kLdN_of h (by rw [encEnt_len]; decide) ?_
  have := ent_data e
  rw [show 0 + 2 = 2 from rfl, this]; exact k
end Go.Proofs.YtjpckcikmfihlaaGreat.Gen

namespace Go.Proofs.YtjpckcikmfihlaaGreat.Gen
open Go Go.Proofs.YtjpckcikmfihlaaGreat.Abs Go.RowKit
variable {g : G} {n : Nat}
theorem strB {e : Ent} {A B : Prop} (hA : strayE e = true → A) (hB : strayE e = false → B) : kSplit (.bool (nz (e.wait &&& ~~~(e.share ||| bitM e.owner)))) A B := kSp_b (b := strayE e) hA hB
set_option maxRecDepth 100000 in
set_option maxHeartbeats 4000000 in
theorem EGood_spec {e : Ent} {K : Cont} (hK : ∀ g' n', Sub g g' → K (.bool (goodE e)) g' n') : AC dir_Good_id [.agg (encEnt e).toArray] g n K := by
  refine ACalls.fold X0_mono ?_
  rw [← dir_Good_eq]
  simp only [dir_Good, kAgg_a, kFill_nil]
  intro hn
  have s1 : Sub g (upd g n (some (.cells (encEnt e) .exact))) := (Sub.refl g).new hn _
  have hx : upd g n (some (.cells (encEnt e) .exact)) n = some (.cells (encEnt e) .exact) := upd_same _ _ _
  generalize upd g n (some (.cells (encEnt e) .exact)) = g1 at s1 hx
  replace hK : ∀ m, K (.bool (goodE e)) g1 m := fun m => hK _ _ s1
  repeat' (first
    | refine kLd_of hx (ent_10 e) ?_ | refine kLd_of hx (ent_11 e) ?_ | refine kLd_of hx (ent_12 e) ?_ | refine kLd_of hx (ent_13 e) ?_ | refine kLd_of hx (ent_14 e) ?_
    | refine kLd_of hx (ent_0 e) ?_ | refine kLd_of hx (ent_1 e) ?_ | refine ldEnt hx ?_
    | refine wNz ?_ | refine wZr ?_ | (refine kSp_b (fun h => ?_) (fun h => ?_))
    | refine lfE hK ?_
    | (refine Bit_spec _ (fun n2 => ?_); refine ⟨rfl, rfl, ?_⟩; refine kOr_m (kAndNot_m (wNz (strB (fun h => ?_) (fun h => ?_)))))
    | refine core_spec _ (fun n2 => ?_)
    | refine wEql ?_ | refine wNeq ?_ | refine wLss ?_ | refine wGeq ?_ | refine wNot ?_ | refine neL _ zeroL _ ?_ | refine wFill ?_)
  all_goals clear hK hx s1 hn
  all_goals unfold goodE
  all_goals grind
end Go.Proofs.YtjpckcikmfihlaaGreat.Gen

namespace Go.Proofs.YtjpckcikmfihlaaGreat.Gen
open Go Go.Proofs.YtjpckcikmfihlaaGreat.Abs Go.RowKit
variable {g : G} {n : Nat}
/-! an entry that changes, and what is told -/
structure Snd where
  to : Int
  m : Ms
def encSnd (s : Snd) : List Value := .int .i64 s.to :: encM s.m
theorem encSnd_len (s : Snd) : (encSnd s).length = 13 := by simp [encSnd, encM_len]
theorem encSnd_cell (s : Snd) : ∀ v ∈ encSnd s, isCell v = true := by
  intro v hv
  rcases List.mem_cons.1 hv with rfl | h
  · rfl
  · exact encM_cell _ _ h
structure Mov where
  e : Ent
  line : Int
  out : List Snd
def encMo (m : Mov) (v : Value) : List Value := encEnt m.e ++ [.int .i64 m.line, v]
theorem encMo_len (m : Mov) (v : Value) : (encMo m v).length = 17 := by simp [encMo, encEnt_len]
theorem mo_ent {m : Mov} {v : Value} {i : Nat} (hi : i < 15) : (encMo m v)[i]? = (encEnt m.e)[i]? := by
  unfold encMo
  rw [List.getElem?_append_left (by rw [encEnt_len]; exact hi)]
theorem mo_15 (m : Mov) (v : Value) : (encMo m v)[15]? = some (.int .i64 m.line) := by
  unfold encMo
  rw [List.getElem?_append_right (by rw [encEnt_len]; exact Nat.le_refl _), encEnt_len]; rfl
theorem mo_16 (m : Mov) (v : Value) : (encMo m v)[16]? = some v := by
  unfold encMo
  rw [List.getElem?_append_right (by rw [encEnt_len]; decide), encEnt_len]; rfl
theorem mo_10 (m : Mov) (v : Value) : (encMo m v)[10]? = some (.int .i64 m.e.owner) := (mo_ent (by decide)).trans (ent_10 _)
theorem mo_11 (m : Mov) (v : Value) : (encMo m v)[11]? = some (encMask m.e.share) := (mo_ent (by decide)).trans (ent_11 _)
theorem mo_12 (m : Mov) (v : Value) : (encMo m v)[12]? = some (.int .i64 m.e.busy) := (mo_ent (by decide)).trans (ent_12 _)
theorem mo_13 (m : Mov) (v : Value) : (encMo m v)[13]? = some (.int .i64 m.e.who) := (mo_ent (by decide)).trans (ent_13 _)
theorem mo_14 (m : Mov) (v : Value) : (encMo m v)[14]? = some (encMask m.e.wait) := (mo_ent (by decide)).trans (ent_14 _)
theorem mo_data (m : Mov) (v : Value) : ((encMo m v).drop 2).take 8 = encL m.e.data := by
  unfold encMo encEnt
  rw [List.append_assoc, List.append_assoc]
  show (encL m.e.data ++ _).take 8 = _
  exact List.take_left' (encL_len _)
theorem ln_cases {P : Ln → Prop} (h : ∀ a0 a1 a2 a3 a4 a5 a6 a7 hw, P ⟨[a0, a1, a2, a3, a4, a5, a6, a7], hw⟩) : ∀ d, P d := by
  rintro ⟨l, hl⟩
  match l, hl with
  | [a0, a1, a2, a3, a4, a5, a6, a7], hl => exact h _ _ _ _ _ _ _ _ hl
section
variable (e : Ent) (i : Int) (s : Mask)
theorem ent_s1 (b : Bool) : (encEnt e).set 1 (.bool b) = encEnt { e with dirty := b } := rfl
theorem ent_s0 (b : Bool) : (encEnt e).set 0 (.bool b) = encEnt { e with here := b } := rfl
theorem ent_s10 : (encEnt e).set 10 (.int .i64 i) = encEnt { e with owner := i } := by obtain ⟨h, d, data, o, s, b, w, wt⟩ := e; revert data; exact ln_cases fun _ _ _ _ _ _ _ _ _ => rfl
theorem ent_s11 : (encEnt e).set 11 (encMask s) = encEnt { e with share := s } := by obtain ⟨h, d, data, o, s, b, w, wt⟩ := e; revert data; exact ln_cases fun _ _ _ _ _ _ _ _ _ => rfl
theorem ent_s12 : (encEnt e).set 12 (.int .i64 i) = encEnt { e with busy := i } := by obtain ⟨h, d, data, o, s, b, w, wt⟩ := e; revert data; exact ln_cases fun _ _ _ _ _ _ _ _ _ => rfl
theorem ent_s13 : (encEnt e).set 13 (.int .i64 i) = encEnt { e with who := i } := by obtain ⟨h, d, data, o, s, b, w, wt⟩ := e; revert data; exact ln_cases fun _ _ _ _ _ _ _ _ _ => rfl
theorem ent_s14 : (encEnt e).set 14 (encMask s) = encEnt { e with wait := s } := by obtain ⟨h, d, data, o, s, b, w, wt⟩ := e; revert data; exact ln_cases fun _ _ _ _ _ _ _ _ _ => rfl
theorem ent_sd (d : Ln) : splice (encEnt e) 2 (encL d) = encEnt { e with data := d } := by
  obtain ⟨h, d0, data, o, s, b, w, wt⟩ := e; revert data
  refine ln_cases fun _ _ _ _ _ _ _ _ _ => ?_
  revert d; exact ln_cases fun _ _ _ _ _ _ _ _ _ => rfl
end
theorem mo_set {m : Mov} {v x : Value} {i : Nat} {e' : Ent} (hi : i < 15) (h : (encEnt m.e).set i x = encEnt e') : (encMo m v).set i x = encMo { m with e := e' } v := by
  unfold encMo
  rw [List.set_append_left _ _ (by rw [encEnt_len]; exact hi), h]
theorem mo_sd {m : Mov} {v : Value} (d : Ln) : splice (encMo m v) 2 (encL d) = encMo { m with e := { m.e with data := d } } v := by
  obtain ⟨⟨h, d0, data, o, s, b, w, wt⟩, line, out⟩ := m; revert data
  refine ln_cases fun _ _ _ _ _ _ _ _ _ => ?_
  revert d; exact ln_cases fun _ _ _ _ _ _ _ _ _ => rfl
theorem mo_s16 {m : Mov} {v x : Value} : (encMo m v).set 16 x = encMo m x := by
  unfold encMo
  rw [List.set_append_right _ _ (by rw [encEnt_len]; decide), encEnt_len]; rfl
/-- a move in its block, whose slice is its own -/
structure MoH (g0 g : G) (l : Nat) (v : Value) (m : Mov) : Prop where
  sub : Sub g0 g
  new : g0 l = none
  at_ : g l = some (.cells (encMo m v) .exact)
  own : OwnS encSnd 13 g0 g v m.out
  ne : blkOf v ≠ some l
theorem MoH.mono {g0 g g' : G} {l : Nat} {v : Value} {m : Mov} (h : MoH g0 g l v m) (hs : Sub g g') : MoH g0 g' l v m := ⟨h.sub.trans hs, h.new, hs.live h.at_, h.own.mono hs, h.ne⟩
/-- the entry changes -/
theorem MoH.ent {g0 g : G} {l : Nat} {v : Value} {m : Mov} (h : MoH g0 g l v m) {cs : List Value} {e' : Ent} (he : cs = encMo { m with e := e' } v) : MoH g0 (upd g l (some (.cells cs .exact))) l v { m with e := e' } := by
  subst he
  refine ⟨h.sub.upd_fresh _ h.new, h.new, upd_same _ _ _, h.own.keep (fun i b hg hb => ?_), h.ne⟩
  have ne : i ≠ l := fun e => h.ne (by rw [← e]; exact hb)
  rw [upd_ne _ _ ne]; exact hg
section
variable {g0 : G} {l : Nat} {v : Value} {m : Mov} {K : G → Prop}
theorem MoH.st10 (h : MoH g0 g l v m) (i : Int) (k : ∀ g', MoH g0 g' l v { m with e := { m.e with owner := i } } → K g') : kSt g l (0 + 0 + 10) (.int .i64 i) K :=
  kSt_of h.at_ rfl (by rw [encMo_len]; decide) rfl (k _ (h.ent (mo_set (by decide) (ent_s10 _ _))))
theorem MoH.st11 (h : MoH g0 g l v m) (i : Mask) (k : ∀ g', MoH g0 g' l v { m with e := { m.e with share := i } } → K g') : kSt g l (0 + 0 + 11) (encMask i) K :=
  kSt_of h.at_ rfl (by rw [encMo_len]; decide) rfl (k _ (h.ent (mo_set (by decide) (ent_s11 _ _))))
theorem MoH.st12 (h : MoH g0 g l v m) (i : Int) (k : ∀ g', MoH g0 g' l v { m with e := { m.e with busy := i } } → K g') : kSt g l (0 + 0 + 12) (.int .i64 i) K :=
  kSt_of h.at_ rfl (by rw [encMo_len]; decide) rfl (k _ (h.ent (mo_set (by decide) (ent_s12 _ _))))
theorem MoH.st13 (h : MoH g0 g l v m) (i : Int) (k : ∀ g', MoH g0 g' l v { m with e := { m.e with who := i } } → K g') : kSt g l (0 + 0 + 13) (.int .i64 i) K :=
  kSt_of h.at_ rfl (by rw [encMo_len]; decide) rfl (k _ (h.ent (mo_set (by decide) (ent_s13 _ _))))
theorem MoH.st14 (h : MoH g0 g l v m) (i : Mask) (k : ∀ g', MoH g0 g' l v { m with e := { m.e with wait := i } } → K g') : kSt g l (0 + 0 + 14) (encMask i) K :=
  kSt_of h.at_ rfl (by rw [encMo_len]; decide) rfl (k _ (h.ent (mo_set (by decide) (ent_s14 _ _))))
theorem MoH.st1 (h : MoH g0 g l v m) (b : Bool) (k : ∀ g', MoH g0 g' l v { m with e := { m.e with dirty := b } } → K g') : kSt g l (0 + 0 + 1) (.bool b) K :=
  kSt_of h.at_ rfl (by rw [encMo_len]; decide) rfl (k _ (h.ent (mo_set (by decide) (ent_s1 _ _))))
theorem MoH.std (h : MoH g0 g l v m) (d : Ln) (k : ∀ g', MoH g0 g' l v { m with e := { m.e with data := d } } → K g') : kStN g l (0 + 0 + 2) (encL d) K :=
  kStN_of h.at_ rfl (by rw [encMo_len, encL_len]; decide) (encL_cell _) (k _ (h.ent (mo_sd _)))
theorem MoH.ldd (h : MoH g0 g l v m) {K : List Value → Prop} (k : K (encL m.e.data)) : kLdN g l (0 + 0 + 2) 8 K := by
  refine kLdN_of h.at_ (by rw [encMo_len]; decide) ?_
  rw [mo_data]; exact k
end
/-- what a core is told -/
def Mov.said (m : Mov) (kind : Int) : Ms := ⟨kind, m.line, false, false, if kind = 8 ∨ kind = 9 ∨ kind = 10 then m.e.data else zeroL⟩
def Mov.tell (m : Mov) (to kind : Int) : Mov := { m with out := m.out ++ [⟨to, m.said kind⟩] }
def Mov.over (m : Mov) : Mov := { m with e := { m.e with busy := 0, who := 0, wait := 0#8 } }
def Mov.own (m : Mov) (by_ kind : Int) : Mov := Mov.tell { m with e := { m.e with owner := by_, share := 0#8 } } by_ kind
def Mov.read (m : Mov) (by_ : Int) : Mov := Mov.tell { m with e := { m.e with share := m.e.share ||| bitM by_ } } by_ 8
def Mov.tells (m : Mov) (kind : Int) : List Int → Mov
  | [] => m
  | to :: r => (m.tell to kind).tells kind r
def Mov.wait (m : Mov) (busy by_ : Int) (cores : Mask) (kind : Int) : Mov := Mov.tells { m with e := { m.e with busy := busy, who := by_, wait := cores } } kind (coresM cores)
def Ent.holders (e : Ent) : Mask := e.share ||| bitM e.owner
def Ent.take (e : Ent) (x : Ms) : Ent := if x.dirty = true then { e with data := x.data, dirty := true } else e
def Mov.getS (m : Mov) (by_ : Int) : Mov := if 0 ≤ m.e.owner ∧ m.e.owner ≠ by_ then m.wait 1 by_ (bitM m.e.owner) 13 else if nz m.e.share = false then m.own by_ 9 else m.read by_
def Mov.getM (m : Mov) (by_ : Int) : Mov := if nz (m.e.holders &&& ~~~(bitM by_)) = false then m.own by_ 10 else m.wait 2 by_ (m.e.holders &&& ~~~(bitM by_)) 12
def Mov.put (m : Mov) (by_ : Int) (x : Ms) : Mov := Mov.tell { m with e := if m.e.owner = by_ then Ent.take { m.e with owner := -1 } x else { m.e with share := m.e.share &&& ~~~(bitM by_) } } by_ 11
def Mov.clean (m : Mov) (by_ : Int) : Mov := m.wait 4 by_ (bitM m.e.owner) 13
def Mov.wipe (m : Mov) (by_ : Int) : Mov := m.wait 5 by_ m.e.holders 12
end Go.Proofs.YtjpckcikmfihlaaGreat.Gen

namespace Go.Proofs.YtjpckcikmfihlaaGreat.Gen
open Go Go.Proofs.YtjpckcikmfihlaaGreat.Abs Go.RowKit
variable {g : G} {n : Nat}
section
variable {g0 : G} {l : Nat} {v : Value} {m : Mov} {K : Cont}
theorem kFill_snd {to : Int} {x : Ms} {K : List Value → Prop} (k : K (encSnd ⟨to, x⟩)) : kFill (encSnd ⟨0, zeroM⟩) [(0, none, .int .i64 to), (1, some 12, .agg (encM x).toArray)] K := by
  refine ⟨rfl, by rw [encSnd_len]; decide, encM_len x, by rw [List.length_set, encSnd_len]; decide, ?_⟩
  have e : splice ((encSnd ⟨0, zeroM⟩).set 0 (.int .i64 to)) 1 (encM x) = encSnd ⟨to, x⟩ := by
    clear k
    obtain ⟨k, l, d, p, data⟩ := x; revert data; exact ln_cases fun _ _ _ _ _ _ _ _ _ => rfl
  rw [e]; exact k
theorem OwnS_cell {α : Type} {enc : α → List Value} {z : Nat} {g0 : G} {v : Value} {xs : List α} (h : OwnS enc z g0 g v xs) : isCell v = true := by
  rcases h with ⟨_, _, a, rfl, _⟩ | ⟨l, c, bk, rfl, _⟩ <;> rfl
theorem kFill_snd1 {s : Snd} {K : List Value → Prop} (k : K (encSnd s)) : kFill (reps 1 (encSnd ⟨0, zeroM⟩)) [(0, some 13, .agg (encSnd s).toArray)] K := by
  refine ⟨encSnd_len s, by rw [show (reps 1 (encSnd ⟨0, zeroM⟩)).length = 13 from rfl]; decide, ?_⟩
  have : splice (reps 1 (encSnd ⟨0, zeroM⟩)) 0 (encSnd s) = encSnd s := splice_all (by rw [encSnd_len]; rfl)
  rw [this]; exact k
set_option maxRecDepth 100000 in
theorem tell_spec (h : MoH g0 g l v m) (to kind : Int) (hb : m.out.length < 1000) (hK : ∀ v' g' n', MoH g0 g' l v' (m.tell to kind) → K (.tuple #[]) g' n') : AC dir_move_tell_id [ptr l 0, .int .i64 to, .int .i64 kind] g n K := by
  refine ACalls.fold X0_mono ?_
  rw [← dir_move_tell_eq]
  simp only [dir_move_tell, kNil_p, kPtr_p]
  refine kLd_of h.at_ (mo_15 _ _) ?_
  refine kFill_m2 (newM (fun g2 s2 hn h2 => ?_))
  have hm := h.mono s2
  have hln : n ≠ l := ne_of_live h.at_ hn
  have j2 : ∀ (t : Env) (g3 : G) (n3 : Nat), MoH g0 g3 l v m → g3 n = some (.cells (encM (m.said kind)) .exact) → t 0 = ptr l 0 → t 1 = .int .i64 to → t 6 = ptr n 0 → dir_move_tell_j2 AC K t g3 n3 := by
    intro t g3 n3 h3 hn3 t0 t1 t6
    simp only [dir_move_tell_j2, t0, t1, t6, kNil_p, kPtr_p]
    refine kLd_of h3.at_ (mo_16 _ _) (ldM hn3 (kFill_snd (kFill_snd1 ?_)))
    intro hn4
    have s4 := (Sub.refl g3).new hn4 (some (.cells (encSnd ⟨to, m.said kind⟩) .exact))
    have hx : upd g3 n3 (some (.cells (encSnd ⟨to, m.said kind⟩) .exact)) n3 = some (.cells (encSnd ⟨to, m.said kind⟩) .exact) := upd_same _ _ _
    have ne4 := ne_of_live h3.at_ hn4
    have q4 : upd g3 n3 (some (.cells (encSnd ⟨to, m.said kind⟩) .exact)) l = g3 l := upd_ne _ _ (fun e => ne4 e.symm)
    generalize upd g3 n3 (some (.cells (encSnd ⟨to, m.said kind⟩) .exact)) = g4 at s4 hx q4
    have h4 := h3.mono s4
    refine ⟨q4, ?_⟩
    refine h4.own.append h4.sub (Sl.one (encSnd_len _) hx) encSnd_cell (by decide) (by simp; omega) (by simp; omega) (fun v' g5 n5 s5 o5 k5 f5 => ?_)
    have h5 := k5 _ _ h4.at_ h4.ne
    refine kSt_of h5 rfl (by rw [encMo_len]; decide) (OwnS_cell o5) ?_
    rw [mo_s16]
    have nev : blkOf v' ≠ some l := fun e => by have := f5 (by simp) l e; rw [h4.at_] at this; cases this
    refine aRet_of (Sub.refl _) (hK v' _ _ ⟨s5.upd_fresh _ h4.new, h4.new, upd_same _ _ _, o5.keep (fun i b hg hb => ?_), nev⟩)
    have ne : i ≠ l := fun e => nev (by rw [← e]; exact hb)
    rw [upd_ne _ _ ne]; exact hg
  have j1 : ∀ (t : Env), t 0 = ptr l 0 → t 1 = .int .i64 to → t 6 = ptr n 0 → t 14 = .bool (decide (kind = 8 ∨ kind = 9 ∨ kind = 10)) → dir_move_tell_j1 AC K t g2 (n + 1) := by
    intro t t0 t1 t6 t14
    simp only [dir_move_tell_j1, t0, t6, t14, kNil_p, kPtr_p]
    refine kSp_d (fun hk => ?_) (fun hk => ?_)
    · refine hm.ldd ?_
      refine ⟨encL_len _, ?_⟩
      refine stMd (m := ⟨kind, m.line, false, false, zeroL⟩) h2 ?_
      have e : (⟨kind, m.line, false, false, m.e.data⟩ : Ms) = m.said kind := by unfold Mov.said; rw [if_pos hk]
      have hn0 : g0 n = none := h.sub.none hn
      refine j2 _ _ _ ⟨hm.sub.upd_fresh _ hn0, hm.new, ?_, h.own.keep (fun i b hg hb => ?_), hm.ne⟩ ?_ t0 t1 t6
      · rw [upd_ne _ _ (fun e => hln e.symm)]; exact hm.at_
      · rw [upd_ne _ _ (fun e => ne_of_live hg hn e.symm)]; exact s2.live hg
      · rw [← e]; exact upd_same _ _ _
    · refine j2 _ _ _ hm ?_ t0 t1 t6
      rw [h2]
      unfold Mov.said
      rw [if_neg hk]
  refine wEql (kSp_d (fun h8 => ?_) (fun h8 => wEql (kSp_d (fun h9 => ?_) (fun h9 => wEql ?_))))
  · exact j1 _ rfl rfl rfl (by show Value.bool _ = _; rw [decide_eq_true h8, decide_eq_true (p := kind = 8 ∨ kind = 9 ∨ kind = 10) (.inl h8)])
  · exact j1 _ rfl rfl rfl (by show Value.bool _ = _; rw [decide_eq_true h9, decide_eq_true (p := kind = 8 ∨ kind = 9 ∨ kind = 10) (.inr (.inl h9))])
  · refine j1 _ rfl rfl rfl ?_
    show Value.bool (decide (kind = 10)) = _
    congr 1
    rw [decide_eq_decide]
    exact ⟨fun h => .inr (.inr h), fun h => by rcases h with h | h | h; exact absurd h h8; exact absurd h h9; exact h⟩
end
end Go.Proofs.YtjpckcikmfihlaaGreat.Gen
