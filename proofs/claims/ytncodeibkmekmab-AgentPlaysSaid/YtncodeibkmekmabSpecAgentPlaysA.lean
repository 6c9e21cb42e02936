import Derived.Test.YtncodeibkmekmabGenAgentPlays
/- What the functions come to. -/
set_option linter.all false
set_option linter.deprecated false
namespace Go.Proofs.Ytncodeibkmekmab.Gen
open Go Go.Proofs.Ytncodeibkmekmab.Abs Go.RowKit
variable {g : G} {n : Nat}
abbrev AC : CT := ACalls Try.prog (XE Try.prog)
theorem X0_mono : XMono (XE Try.prog) := XE_mono
/-- a call of plain values that an evaluation tells -/
theorem AC_ev {f : FuncId} {args : List Value} {K : Cont} (v : Value) (fuel depth : Nat) (h1 : plain 3 v = true) (h2 : args.all (plain 3) = true) (h3 : ecalls Try.prog fuel depth f args .nil 0 (fun v' _ _ => sameW v' v) = true) (hK : ∀ n', K v g n') : AC f args g n K :=
  fun C hC => hC.2 _ _ _ _ _ ⟨v, fuel, depth, h1, h2, h3, hK⟩

theorem kSplit_t {b : Bool} {A B : Prop} (h : b = true) (k : A) : kSplit (.bool b) A B := by subst h; exact k
theorem kSplit_f {b : Bool} {A B : Prop} (h : b = false) (k : B) : kSplit (.bool b) A B := by subst h; exact k
theorem take_add {α : Type} {xs : List α} {i : Nat} {x : α} (h : xs[i]? = some x) : xs.take (i + 1) = xs.take i ++ [x] := by rw [List.take_add_one, h]; rfl
theorem drop_get {α : Type} {xs : List α} {i : Nat} {x : α} (h : xs[i]? = some x) : xs.drop i = x :: xs.drop (i + 1) := by
  rw [List.drop_eq_getElem?_toList_append, h]; rfl
def idxV (o : Option Nat) : Value := match o with | some i => .int .i64 (i : Nat) | none => .int .i64 (-1)
theorem filter_take_none {α : Type} {p : α → Bool} {xs : List α} {i : Nat} (h : ∀ x ∈ xs.take i, p x = false) : (xs.take i).filter (fun x => !p x) = xs.take i := by
  rw [List.filter_eq_self]; intro x hx; simp [h x hx]
abbrev Ln := { w : List Int // w.length = 8 }
def encL (l : Ln) : List Value := l.1.map (.int .u64 ·)
theorem encL_len (l : Ln) : (encL l).length = 8 := by simp [encL, l.2]
theorem encL_cell (l : Ln) : ∀ v ∈ encL l, isCell v = true := by simp [encL, isCell]
def zeroL : Ln := ⟨[0, 0, 0, 0, 0, 0, 0, 0], rfl⟩
def Ln.put (l : Ln) (w : Nat) (v : Int) : Ln := ⟨l.1.set w v, by simp [l.2]⟩
theorem leaves_ints {k : IntKind} : ∀ (xs ys : List Int), xs.length = ys.length → leavesEq (List.replicate xs.length .i) (xs.map (.int k ·)) (ys.map (.int k ·)) = some (decide (xs = ys))
  | [], [], _ => rfl
  | [], _ :: _, h => by simp at h
  | _ :: _, [], h => by simp at h
  | x :: xs, y :: ys, h => by
    have ih := leaves_ints (k := k) xs ys (by simpa using h)
    simp only [List.length_cons, List.replicate_succ, List.map_cons, leavesEq, leafEq, if_true, ih, Option.some.injEq]
    rw [Bool.eq_iff_iff]; simp
theorem eqL (a b : Ln) (K : Value → Prop) (h : K (.bool (decide (a = b)))) : kBin (.agg [.i, .i, .i, .i, .i, .i, .i, .i]) .eql (.agg (encL a).toArray) (.agg (encL b).toArray) K := by
  have e := leaves_ints (k := .u64) a.1 b.1 (by rw [a.2, b.2])
  rw [a.2] at e
  have e' : leavesEq [.i, .i, .i, .i, .i, .i, .i, .i] (encL a) (encL b) = some (decide (a = b)) := by
    have : (decide (a = b)) = decide (a.1 = b.1) := by rw [Bool.eq_iff_iff]; simp [Subtype.ext_iff]
    rw [this]; exact e
  show (match leavesEq [.i, .i, .i, .i, .i, .i, .i, .i] (encL a) (encL b) with | some r => kCmp .eql r K | none => False)
  rw [e']
  exact h
theorem splice_all {cs vs : List Value} (h : vs.length = cs.length) : splice cs 0 vs = vs := by simp [splice, h]
theorem findIdx_some {α : Type} {p : α → Bool} {xs : List α} {i : Nat} {x : α} (he : xs[i]? = some x) (hp : p x = true) (hb : ∀ y ∈ xs.take i, p y = false) : xs.findIdx? p = some i := by
  have hlt := lt_of_get he
  rw [List.findIdx?_eq_some_iff_getElem]
  refine ⟨hlt, ?_, fun j hj => ?_⟩
  · rw [List.getElem?_eq_getElem hlt] at he; cases he; exact hp
  · have := hb xs[j] (List.mem_of_getElem? (i := j) (by rw [List.getElem?_take, if_pos hj, List.getElem?_eq_getElem]))
    simp [this]
def encB (i : Int) : List Value := [.int .u8 i]
theorem encB_len (i : Int) : (encB i).length = 1 := rfl
theorem encB_cell (i : Int) : ∀ v ∈ encB i, isCell v = true := by simp [encB, isCell]
theorem ldL {l : Nat} {x : Ln} {bk : BK} {K : List Value → Prop} (h : g l = some (.cells (encL x) bk)) (k : K (encL x)) : kLdN g l 0 8 K := by
  refine kLdN_of h (by rw [encL_len]; decide) ?_
  rw [List.drop_zero, List.take_of_length_le (by rw [encL_len]; exact Nat.le_refl _)]; exact k
theorem putL {l : Nat} {x : Ln} {w : Int} {v : Int} {K : Value → Nat → Nat → G → Prop} (hw : 0 ≤ w ∧ w < 8) (h : g l = some (.cells (encL x) .exact))
    (k : ∀ p l' o, upd g l (some (.cells (encL (x.put w.toNat v)) .exact)) l = some (.cells (encL (x.put w.toNat v)) .exact) → K p l' o (upd g l (some (.cells (encL (x.put w.toNat v)) .exact)))) :
    kIndexArr (ptr l 0) (.int .i64 w) 8 1 fun p => kPtr p fun l' o => kSt g l' o (.int .u64 v) (K p l' o) := by
  refine ⟨hw.1, hw.2, ?_⟩
  simp only [kPtr_p]
  refine kSt_of h rfl (by rw [encL_len]; omega) rfl ?_
  have e : (encL x).set (0 + w.toNat * 1) (.int .u64 v) = encL (x.put w.toNat v) := by simp [encL, Ln.put, List.map_set]
  rw [e]
  exact k _ _ _ (upd_same _ _ _)
end Go.Proofs.Ytncodeibkmekmab.Gen

namespace Go.Proofs.Ytncodeibkmekmab.Gen
open Go Go.Proofs.Ytncodeibkmekmab.Abs Go.RowKit
variable {g : G} {n : Nat}

/-- a slot of an array -/
structure St where
  state : Int
  line : Int
  data : Ln
  used : Int
  deriving DecidableEq
def encS (s : St) : List Value := [.int .i64 s.state, .int .i64 s.line] ++ encL s.data ++ [.int .i64 s.used]
theorem encS_len (s : St) : (encS s).length = 11 := by simp [encS, encL_len]
theorem encS_cell (s : St) : ∀ v ∈ encS s, isCell v = true := by
  intro v hv
  simp only [encS, List.mem_append, List.mem_cons, List.not_mem_nil, or_false] at hv
  rcases hv with ((rfl | rfl) | h) | rfl
  · rfl
  · rfl
  · exact encL_cell _ v h
  · rfl
theorem ldS {l : Nat} {x : St} {bk : BK} {K : List Value → Prop} (h : g l = some (.cells (encS x) bk)) (k : K (encS x)) : kLdN g l 0 11 K := by
  refine kLdN_of h (by rw [encS_len]; decide) ?_
  rw [List.drop_zero, List.take_of_length_le (by rw [encS_len]; exact Nat.le_refl _)]; exact k
def zeroS : St := ⟨0, 0, zeroL, 0⟩
theorem encS_0 (s : St) : (encS s)[0]? = some (.int .i64 s.state) := rfl
theorem encS_1 (s : St) : (encS s)[1]? = some (.int .i64 s.line) := rfl
theorem encS_10 (s : St) : (encS s)[10]? = some (.int .i64 s.used) := by
  unfold encS
  rw [List.getElem?_append_right (by simp [encL_len])]
  simp [encL_len]

/-- the array's heap: the object at la, the slots at ls -/
structure Arr where
  sets : Nat
  ways : Nat
  l : List St
  used : Int
  deriving DecidableEq
def Arr.ok (A : Arr) : Prop := (A.sets = 1 ∨ A.sets = 2 ∨ A.sets = 4 ∨ A.sets = 8) ∧ 1 ≤ A.ways ∧ A.ways ≤ 8 ∧ A.l.length = A.sets * A.ways ∧ 0 ≤ A.used ∧ A.used < 1000000
def ArrC (A : Arr) (ls : Nat) : List Value := [.int .i64 A.sets, .int .i64 A.ways, .slice (some ⟨ls, 0, none⟩) (A.sets * A.ways) (A.sets * A.ways), .int .i64 A.used]
structure ArrH (g : G) (la ls : Nat) (A : Arr) : Prop where
  obj : g la = some (.cells (ArrC A ls) .exact)
  row : Blk1 encS g ls A.l .exact
  ne : la ≠ ls
theorem ArrH.mono {g g' : G} {la ls : Nat} {A : Arr} (h : ArrH g la ls A) (hs : Sub g g') : ArrH g' la ls A := ⟨hs.live h.obj, h.row.mono hs, h.ne⟩
theorem geomSet_spec {sets line : Int} (hs : sets = 1 ∨ sets = 2 ∨ sets = 4 ∨ sets = 8) (hl : 0 ≤ line) {K : Cont} (hK : ∀ n', K (.int .i64 (line % sets)) g n') : AC geom_Set_id [.int .i64 sets, .int .i64 line] g n K := by
  refine ACalls.fold X0_mono ?_
  rw [← geom_Set_eq]
  simp only [geom_Set, kBin_lss, kBin_eql]
  refine kSplit_f (by simpa using hl) ?_
  have j1 : ∀ (t : Env) (n : Nat), t 8 = .bool true → t 0 = .int .i64 sets → t 1 = .int .i64 line → geom_Set_j1 AC K t g n := by
    intro t n t8 t0 t1
    simp only [geom_Set_j1, t8, t0, t1, kBin_rem]
    refine ⟨by omega, aRet_of (Sub.refl _) ?_⟩
    rw [Int.tmod_eq_emod_of_nonneg hl]
    exact hK _
  rcases hs with rfl | rfl | rfl | rfl
  · exact kSplit_t rfl (j1 _ _ rfl rfl rfl)
  · exact kSplit_f rfl (kSplit_t rfl (j1 _ _ rfl rfl rfl))
  · exact kSplit_f rfl (kSplit_f rfl (kSplit_t rfl (j1 _ _ rfl rfl rfl)))
  · exact kSplit_f rfl (kSplit_f rfl (kSplit_f rfl (j1 _ _ rfl rfl rfl)))

/-- a part of an exact slice, closed behind -/
theorem kSlice_part {l c z i j : Nat} {K : Value → Prop} (hc : c < LC) (hij : i < j) (hj : j ≤ c) (k : K (.slice (some ⟨l, i * z, none⟩) (j - i) (j - i))) :
    kSlice (.slice (some ⟨l, 0, none⟩) c c) (some (.int .i64 (i : Nat))) (some (.int .i64 (j : Nat))) (some (.int .i64 (j : Nat))) z K := by
  simp only [kSlice, if_pos hc, kBound, kInt_i]
  refine ⟨by omega, by omega, by omega, by omega, by omega, by omega, ?_⟩
  simp only [Int.toNat_natCast]
  rw [if_neg (by omega)]
  simp only [Option.map_some, addr_mk, Nat.zero_add]
  exact k

def Arr.from (A : Arr) (line : Int) : Nat := (line % A.sets).toNat * A.ways
theorem Arr.from_le {A : Arr} (h : A.ok) {line : Int} (hl : 0 ≤ line) : A.from line + A.ways ≤ A.sets * A.ways := by
  obtain ⟨hs, hw, _⟩ := h
  have h1 : (line % A.sets).toNat + 1 ≤ A.sets := by
    have : line % (A.sets : Int) < A.sets := Int.emod_lt_of_pos _ (by omega)
    have : 0 ≤ line % (A.sets : Int) := Int.emod_nonneg _ (by omega)
    omega
  have := Nat.mul_le_mul_right A.ways h1
  rw [Nat.add_mul, Nat.one_mul] at this
  exact this
theorem Arr.small {A : Arr} (h : A.ok) : A.sets * A.ways ≤ 64 := by
  obtain ⟨hs, hw1, hw2, _⟩ := h
  have := Nat.mul_le_mul (show A.sets ≤ 8 by omega) hw2
  omega
def setV (ls : Nat) (A : Arr) (line : Int) : Value := .slice (some ⟨ls, A.from line * 11, none⟩) A.ways A.ways
theorem set_spec {A : Arr} {la ls : Nat} {line : Int} (hok : A.ok) (hh : ArrH g la ls A) (hl : 0 ≤ line) {K : Cont} (hK : ∀ n', K (setV ls A line) g n') : AC array_Array_set_id [ptr la 0, .int .i64 line] g n K := by
  refine ACalls.fold X0_mono ?_
  rw [← array_Array_set_eq]
  simp only [array_Array_set, kNil_p, kPtr_p, Nat.zero_add]
  have hf := Arr.from_le hok hl
  have hsm := Arr.small hok
  refine kLd_of hh.obj rfl ?_
  refine kLd_of hh.obj rfl ?_
  refine geomSet_spec (by have := hok.1; omega) hl (fun n1 => ?_)
  refine ⟨rfl, ?_⟩
  have hnn : 0 ≤ line % (A.sets : Int) := Int.emod_nonneg _ (by have := hok.1; omega)
  have e1 : (line % (A.sets : Int)) * (A.ways : Int) = (A.from line : Int) := by unfold Arr.from; rw [Int.natCast_mul, Int.toNat_of_nonneg hnn]
  have hw2 := hok.2.2.1
  simp only [kBin_mul]
  rw [e1, wrap64_of (by omega) (by omega)]
  refine kLd_of hh.obj rfl ?_
  refine kLd_of hh.obj rfl ?_
  simp only [kBin_add]
  rw [wrap64_of (by omega) (by omega)]
  refine kLd_of hh.obj rfl ?_
  simp only [kBin_add]
  rw [wrap64_of (by omega) (by omega), show (A.from line : Int) + (A.ways : Int) = ((A.from line + A.ways : Nat) : Int) by omega]
  have hw1 := hok.2.1
  refine kSlice_part (by have : LC = 4611686018427387904 := rfl; omega) (by omega) hf (aRet_of (Sub.refl _) ?_)
  rw [show A.from line + A.ways - A.from line = A.ways by omega]
  exact hK _
end Go.Proofs.Ytncodeibkmekmab.Gen

namespace Go.Proofs.Ytncodeibkmekmab.Gen
open Go Go.Proofs.Ytncodeibkmekmab.Abs Go.RowKit
variable {g : G} {n : Nat}

theorem IndexFunc_Slot_spec {v such : Value} (p : St → Bool) {xs : List St} (hv : Sl encS 11 g v xs)
    (hsuch : ∀ (g' : G) (n' : Nat) (e : St) (K : Cont), Sub g g' → (∀ n, K (.bool (p e)) g' n) → kCall AC such [.agg (encS e).toArray] g' n' K)
    (hlen : xs.length < 1000000) {K : Cont} (hK : ∀ n', K (idxV (xs.findIdx? p)) g n') : AC slices_IndexFunc_array_Slot_array_Slot_id [v, such] g n K := by
  refine ACalls.fold X0_mono ?_
  rw [← slices_IndexFunc_array_Slot_array_Slot_eq]
  simp only [slices_IndexFunc_array_Slot_array_Slot]
  refine hv.len ?_
  refine lfp_ind (fun m t g' n' => g' = g ∧ ∃ i : Nat, m = xs.length - i ∧ i ≤ xs.length ∧ t 0 = v ∧ t 1 = such ∧ t 7 = .int .i64 xs.length ∧ t 8 = .int .i64 i ∧ (∀ x ∈ xs.take i, p x = false)) ?_
    (m := xs.length) ⟨rfl, 0, by simp, by simp, rfl, rfl, rfl, rfl, by simp⟩
  rintro I m t g1 n1 hI ⟨rfl, i, hm, hi, h0, h1, h7, h8, hp⟩
  simp only [slices_IndexFunc_array_Slot_array_Slot_l1, h0, h1, h7, h8, kBin_lss, kSplit_b, decide_eq_true_eq, decide_eq_false_iff_not]
  refine ⟨fun hlt => ?_, fun hge => ?_⟩
  · have hlt : i < xs.length := by omega
    have he : xs[i]? = some xs[i] := List.getElem?_eq_getElem hlt
    have hei : xs[i] = xs[i] := rfl
    generalize hx : xs[i] = e at he
    refine hv.idx encS_len he (fun l o ha => ?_)
    simp only [kPtr_p]
    refine ha.ldN (encS_len e).symm ?_
    refine hsuch _ _ _ _ (Sub.refl _) (fun n2 => ?_)
    simp only [kSplit_b, kBin_add]
    refine ⟨fun hpe => aRet_of (Sub.refl _) ?_, fun hpe => ?_⟩
    · have : xs.findIdx? p = some i := by
        rw [List.findIdx?_eq_some_iff_getElem]
        refine ⟨hlt, by rw [hx]; exact hpe, fun j hj => ?_⟩
        have := hp xs[j] (List.mem_of_getElem? (i := j) (by rw [List.getElem?_take, if_pos hj, List.getElem?_eq_getElem]))
        simp [this]
      have := hK n2
      rw [‹xs.findIdx? p = some i›] at this
      exact this
    · rw [wrapNat (by omega)]
      refine hI (xs.length - (i + 1)) _ _ _ (by omega) ⟨rfl, i + 1, rfl, by omega, h0, h1, h7, rfl, ?_⟩
      intro x hx'
      rw [take_add he] at hx'
      rcases List.mem_append.1 hx' with h | h
      · exact hp x h
      · simp at h; subst h; exact hpe
  · have : i = xs.length := by omega
    subst this
    rw [List.take_length] at hp
    have h : xs.findIdx? p = none := by rw [List.findIdx?_eq_none_iff]; exact hp
    have := hK n1
    rw [h] at this
    exact aRet_of (Sub.refl _) this

theorem DeleteFunc_Slot_spec {g0 : G} {v such : Value} (p : St → Bool) {xs : List St} (hv : OwnS encS 11 g0 g v xs) (hs0 : Sub g0 g)
    (hsuch : ∀ (g' : G) (n' : Nat) (e : St) (K : Cont), Sub g0 g' → (∀ n, K (.bool (p e)) g' n) → kCall AC such [.agg (encS e).toArray] g' n' K)
    (hlen : xs.length < 1000000) {K : Cont} (hK : ∀ v' g' n', Sub g0 g' → Sl encS 11 g' v' (xs.filter fun e => !p e) → K v' g' n') : AC slices_DeleteFunc_array_Slot_array_Slot_id [v, such] g n K := by
  refine ACalls.fold X0_mono ?_
  rw [← slices_DeleteFunc_array_Slot_array_Slot_eq]
  simp only [slices_DeleteFunc_array_Slot_array_Slot]
  refine IndexFunc_Slot_spec p hv.sl (fun g' n' e K hs => hsuch g' n' e K (hs0.trans hs)) hlen (fun n1 => ?_)
  cases hidx : xs.findIdx? p with
  | none =>
    rw [List.findIdx?_eq_none_iff] at hidx
    simp only [idxV, kBin_eql]
    refine kSplit_t rfl (aRet_of (Sub.refl _) (hK _ _ _ hs0 ?_))
    have : xs.filter (fun e => !p e) = xs := by rw [List.filter_eq_self]; intro x hx; simp [hidx x hx]
    rw [this]; exact hv.sl
  | some i0 =>
    rw [List.findIdx?_eq_some_iff_getElem] at hidx
    obtain ⟨hi0, hpi, hbefore⟩ := hidx
    rcases hv with ⟨h, _⟩ | ⟨l, c, bk, rfl, hg, h0, hl, hck⟩
    · exact absurd hi0 (by omega)
    have hrw : bk.rw = true := by rcases hck with ⟨_, rfl, _⟩ | ⟨_, rfl⟩ <;> rfl
    simp only [idxV, kBin_eql, kBin_add]
    refine kSplit_f (by simp) ?_
    rw [wrapNat (by omega)]
    have hi0e : xs[i0]? = some xs[i0] := List.getElem?_eq_getElem hi0
    have hbf : ∀ x ∈ xs.take i0, p x = false := by
      intro x hx
      obtain ⟨j, hj⟩ := List.getElem?_of_mem hx
      rw [List.getElem?_take] at hj
      split at hj
      · rename_i hji
        have := hbefore j hji
        rw [List.getElem?_eq_getElem (by omega)] at hj
        cases hj
        simpa using this
      · cases hj
    have hf0 : (xs.take (i0 + 1)).filter (fun e => !p e) = xs.take i0 := by rw [take_add hi0e, List.filter_append, filter_take_none hbf]; simp [hpi]
    have hl0 : (xs.take i0).length = i0 := by rw [List.length_take]; omega
    refine lfp_ind (fun m t g' n' => Sub g0 g' ∧ ∃ (j : Nat) (ys : List St), m = xs.length - j ∧ j ≤ xs.length ∧ t 0 = .slice (some ⟨l, 0, none⟩) xs.length c ∧ t 1 = such ∧
        t 5 = .int .i64 (((xs.take j).filter fun e => !p e).length : Nat) ∧ t 6 = .int .i64 j ∧ ys.length = xs.length ∧ Blk1 encS g' l ys bk ∧ ((xs.take j).filter fun e => !p e).length < j ∧
        ys.take ((xs.take j).filter fun e => !p e).length = (xs.take j).filter (fun e => !p e) ∧ ys.drop j = xs.drop j) ?_
      (m := xs.length - (i0 + 1)) ⟨hs0, i0 + 1, xs, rfl, by omega, rfl, rfl, ?_, rfl, rfl, hg, ?_, ?_, rfl⟩
    · rintro I m t g1 n2 hI ⟨hs1, j, ys, hm, hj, t0, t1, t5, t6, hyl, hb, hfj, hyt, hyd⟩
      simp only [slices_DeleteFunc_array_Slot_array_Slot_l1, t0, t1, t5, t6, kLen_s, kBin_lss, kSplit_b, decide_eq_true_eq, decide_eq_false_iff_not]
      refine ⟨fun hlt => ?_, fun hge => ?_⟩
      · have hlt : j < xs.length := by omega
        have he : xs[j]? = some xs[j] := List.getElem?_eq_getElem hlt
        generalize xs[j] = e at he
        have hye : ys[j]? = some e := by
          have h1 := drop_get he
          rw [← hyd] at h1
          have : (ys.drop j)[0]? = some e := by rw [h1]; rfl
          simpa using this
        have hd1 : ys.drop (j + 1) = xs.drop (j + 1) := by
          have h1 := drop_get he
          rw [← hyd, drop_get hye] at h1
          exact (List.cons.inj h1).2
        refine kIndexAddr_s (by omega) (by omega) ?_
        simp only [kPtr_p, Int.toNat_natCast, Nat.zero_add]
        refine hb.ldN encS_len hye ?_
        intro hn2
        simp only [kAgg_a]
        refine ⟨encS_len e, kStN_of (upd_same _ _ _) rfl (by rw [encS_len]; decide) (encS_cell e) ?_⟩
        have hs3 : Sub g1 _ := (((Sub.refl g1).new hn2 (some (.cells [(.int .i64 0), (.int .i64 0), (.int .u64 0), (.int .u64 0), (.int .u64 0), (.int .u64 0), (.int .u64 0), (.int .u64 0), (.int .u64 0), (.int .u64 0), (.int .i64 0)] .exact))).upd_fresh (some (.cells (encS e) .exact)) hn2)
        have hl3 : (upd (upd g1 n2 (some (.cells [(.int .i64 0), (.int .i64 0), (.int .u64 0), (.int .u64 0), (.int .u64 0), (.int .u64 0), (.int .u64 0), (.int .u64 0), (.int .u64 0), (.int .u64 0), (.int .i64 0)] .exact))) n2 (some (.cells (encS e) .exact))) n2 = some (.cells (encS e) .exact) := upd_same _ _ _
        rw [splice_all (cs := [(.int .i64 0), (.int .i64 0), (.int .u64 0), (.int .u64 0), (.int .u64 0), (.int .u64 0), (.int .u64 0), (.int .u64 0), (.int .u64 0), (.int .u64 0), (.int .i64 0)]) (vs := encS e) (by rw [encS_len]; rfl)]
        refine ldS (upd_same _ _ _) ?_
        refine hsuch _ _ e _ (hs1.trans hs3) (fun n3 => ?_)
        simp only [kUn_not, kSplit_b, kBin_add]
        have next : ∀ (t : Env) (g4 : G) (n1 : Nat) (zs : List St), Sub g0 g4 → t 0 = .slice (some ⟨l, 0, none⟩) xs.length c → t 1 = such → t 5 = .int .i64 (((xs.take (j + 1)).filter fun e => !p e).length : Nat) → t 6 = .int .i64 j → zs.length = xs.length → Blk1 encS g4 l zs bk →
            ((xs.take (j + 1)).filter fun e => !p e).length < j + 1 → zs.take ((xs.take (j + 1)).filter fun e => !p e).length = (xs.take (j + 1)).filter (fun e => !p e) → zs.drop (j + 1) = xs.drop (j + 1) → slices_DeleteFunc_array_Slot_array_Slot_j2 AC K I t g4 n1 := by
          intro t g4 n1 zs hs t0 t1 t5 t6 h1 h2 h3 h4 h5
          simp only [slices_DeleteFunc_array_Slot_array_Slot_j2, t6, kBin_add]
          rw [wrapNat (by omega)]
          exact hI (xs.length - (j + 1)) _ _ _ (by omega) ⟨hs, j + 1, zs, rfl, by omega, t0, t1, t5, rfl, h1, h2, h3, h4, h5⟩
        refine ⟨fun hpe => ?_, fun hpe => ?_⟩
        · have hpe : p e = false := by simpa using hpe
          have hf : (xs.take (j + 1)).filter (fun e => !p e) = (xs.take j).filter (fun e => !p e) ++ [e] := by rw [take_add he]; simp [hpe]
          refine ldS hl3 ?_
          refine kIndexAddr_s (by omega) (by omega) ?_
          simp only [kPtr_p, kAgg_a, Int.toNat_natCast, Nat.zero_add]
          refine ⟨encS_len e, (hb.mono hs3).stN (i := ((xs.take j).filter fun e => !p e).length) (y := e) encS_len encS_cell hrw (by omega) (fun hb' => ?_)⟩
          rw [wrapNat (by omega)]
          refine next _ _ _ (ys.set ((xs.take j).filter fun e => !p e).length e) ((hs1.trans hs3).upd_fresh _ h0) t0 t1 ?_ t6 (by simpa using hyl) hb' (by rw [hf]; simp; omega) ?_ ?_
          · show Value.int .i64 _ = _
            rw [hf]; simp
          · rw [hf, List.length_append, List.length_singleton, take_set_one (by omega), hyt]
          · rw [List.drop_set, if_pos (by omega)]; exact hd1
        · have hpe : p e = true := by simpa using hpe
          have hf : (xs.take (j + 1)).filter (fun e => !p e) = (xs.take j).filter (fun e => !p e) := by rw [take_add he]; simp [hpe]
          exact next _ _ _ ys (hs1.trans hs3) t0 t1 (by rw [hf]; exact t5) t6 hyl (hb.mono hs3) (by rw [hf]; omega) (by rw [hf]; exact hyt) hd1
      · have hje : j = xs.length := by omega
        subst hje
        rw [List.take_length] at hfj hyt t5
        simp only [slices_DeleteFunc_array_Slot_array_Slot_j3]
        show kSlice (t 0) (some (t 5)) none none 11 _
        rw [t0, t5]
        have hcc : (c < LC ∧ xs.length ≤ c) ∨ c = LC + 11 := by rcases hck with ⟨h1, _, h2⟩ | ⟨h1, _⟩ <;> omega
        refine kSlice_from hcc (by omega) (fun o' c' ho => ?_)
        rw [← hyl]
        have fin : ∀ (g4 : G) (zs : List St), Sub g0 g4 → zs.take (xs.filter fun e => !p e).length = xs.filter (fun e => !p e) → zs.length = ys.length → Blk1 encS g4 l zs bk → kSlice (puts t [(16, .int .i64 xs.length), (17, .slice (some ⟨l, 0, none⟩) ys.length c), (18, .int .i64 ys.length), (19, .bool (decide ((xs.length : Int) < (ys.length : Int))))] 0) none (some (puts t [(16, .int .i64 xs.length), (17, .slice (some ⟨l, 0, none⟩) ys.length c), (18, .int .i64 ys.length), (19, .bool (decide ((xs.length : Int) < (ys.length : Int))))] 5)) none 11 fun v41 => aRet K v41 g4 n2 := by
          intro g4 zs hs hz hl hb
          show kSlice (t 0) none (some (t 5)) none 11 _
          rw [t0, t5]
          refine kSlice_to hcc (by omega) (aRet_of (Sub.refl _) (hK _ _ _ hs ?_))
          have := hb.sl (i := 0) (m := (xs.filter fun e => !p e).length) (c := c) encS_len (by omega)
          rw [Nat.zero_mul, List.drop_zero, hz] at this
          exact this
        rw [hyl]
        rw [hyl] at fin
        rw [show xs.length - (xs.filter fun e => !p e).length = ys.length - (xs.filter fun e => !p e).length by rw [hyl]]
        refine Blk1.clear (y := zeroS) encS_len encS_cell hb hrw (by omega) (fun h => ho (by omega)) (fun h => fin _ ys hs1 hyt hyl hb) (fun zs h1 h2 h3 => fin _ zs (hs1.upd_fresh _ h0) (by rw [h1]; exact hyt) (by omega) h3)
    · show Value.int .i64 _ = _
      rw [hf0, hl0]
    · rw [hf0, hl0]; omega
    · rw [hf0, hl0]
end Go.Proofs.Ytncodeibkmekmab.Gen

namespace Go.Proofs.Ytncodeibkmekmab.Gen
open Go Go.Proofs.Ytncodeibkmekmab.Abs Go.RowKit
variable {g : G} {n : Nat}

/-! what the array's functions come to, in plain words -/
def Arr.part (A : Arr) (line : Int) : List St := (A.l.drop (A.from line)).take A.ways
def Arr.at (A : Arr) (line : Int) : Option Nat := if line < 0 then none else (A.part line).findIdx? fun s => decide (s.state ≠ 0) && decide (s.line = line)
def Arr.free (A : Arr) (line : Int) : Option Nat := (A.part line).findIdx? fun s => decide (s.state = 0)
def Arr.put (A : Arr) (line : Int) (k : Nat) (s : St) : Arr := { A with l := A.l.set (A.from line + k) s }
def Arr.tick (A : Arr) : Arr := { A with used := A.used + 1 }
def Arr.set (A : Arr) (line state : Int) (d : Ln) : Int × Arr :=
  if line < 0 ∨ state < 1 ∨ 9 < state then (1, A) else
  match (A.at line).or (A.free line) with
  | none => (13, A)
  | some k => (0, A.tick.put line k ⟨state, line, d, A.used + 1⟩)
def Arr.slotAt (A : Arr) (line : Int) (k : Nat) : St := A.l.getD (A.from line + k) zeroS
def Arr.touch (A : Arr) (line : Int) : Arr := match A.at line with
  | none => A
  | some k => A.tick.put line k { A.slotAt line k with used := A.used + 1 }
def Arr.drop (A : Arr) (line : Int) : Arr := match A.at line with
  | none => A
  | some k => A.put line k zeroS
def Arr.find (A : Arr) (line : Int) : St × Bool := match A.at line with
  | none => (zeroS, false)
  | some k => (A.slotAt line k, true)
/-- the scan for room: what was found up to now -/
def roomScan : List St → Int → Int → Bool × Int
  | [], v, _ => (false, v)
  | s :: l, v, last => if s.state = 0 then (true, -1) else
    if 1 ≤ s.state ∧ s.state ≤ 3 ∧ (v < 0 ∨ s.used < last) then roomScan l s.line s.used else roomScan l v last
def Arr.room (A : Arr) (line : Int) : Bool × Int := if line < 0 then (false, -1) else roomScan (A.part line) (-1) 0
def Arr.slots (A : Arr) : List St := A.l.filter fun s => !decide (s.state = 0)

theorem Arr.part_len {A : Arr} (h : A.ok) {line : Int} (hl : 0 ≤ line) : (A.part line).length = A.ways := by
  have h1 := Arr.from_le h hl
  have h2 := h.2.2.2.1
  unfold Arr.part
  rw [List.length_take, List.length_drop]; omega
theorem Arr.part_get {A : Arr} (h : A.ok) {line : Int} (hl : 0 ≤ line) {k : Nat} (hk : k < A.ways) : (A.part line)[k]? = some (A.slotAt line k) := by
  have h1 := Arr.from_le h hl
  have h2 := h.2.2.2.1
  unfold Arr.part Arr.slotAt
  rw [List.getElem?_take, if_pos hk, List.getElem?_drop, List.getD_eq_getElem?_getD, List.getElem?_eq_getElem (by omega)]; rfl
theorem Arr.at_lt {A : Arr} (h : A.ok) {line : Int} {k : Nat} (hk : A.at line = some k) : 0 ≤ line ∧ k < A.ways := by
  unfold Arr.at at hk
  split at hk
  · cases hk
  · have := List.findIdx?_eq_some_iff_getElem.1 hk
    obtain ⟨h1, _⟩ := this
    rw [Arr.part_len h (by omega)] at h1
    exact ⟨by omega, h1⟩
theorem Arr.free_lt {A : Arr} (h : A.ok) {line : Int} (hl : 0 ≤ line) {k : Nat} (hk : A.free line = some k) : k < A.ways := by
  obtain ⟨h1, _⟩ := List.findIdx?_eq_some_iff_getElem.1 hk
  rw [Arr.part_len h hl] at h1
  exact h1
theorem Arr.put_ok {A : Arr} (h : A.ok) (line : Int) (k : Nat) (s : St) : (A.put line k s).ok := by
  obtain ⟨h1, h2, h3, h4, h5⟩ := h
  exact ⟨h1, h2, h3, by simp [Arr.put, h4], h5⟩

/-! the functions -/
theorem at1_spec {l3 : Nat} {e : St} {line : Int} (hl : g l3 = some (.cells [.int .i64 line] .exact)) {K : Cont} (hK : ∀ n', K (.bool (decide (e.state ≠ 0) && decide (e.line = line))) g n') :
    AC array_Array_at_1_id [.agg (encS e).toArray, ptr l3 0] g n K := by
  refine ACalls.fold X0_mono ?_
  rw [← array_Array_at_1_eq]
  simp only [array_Array_at_1, kAgg_a]
  intro hn
  have hs := (Sub.refl g).new hn (some (.cells (encS e) .exact))
  refine kLd_of (upd_same _ _ _) (encS_0 e) ?_
  simp only [kBin_neq, kSplit_b, decide_eq_true_eq, decide_eq_false_iff_not, kPtr_p]
  refine ⟨fun h => ?_, fun h => ?_⟩
  · refine kLd_of (upd_same _ _ _) (encS_1 e) ?_
    refine kLd_of (hs.live hl) rfl ?_
    simp only [kBin_eql]
    refine aRet_of hs ?_
    have := hK n
    rw [decide_eq_true h, Bool.true_and] at this
    exact hK _ |> fun k => by rw [decide_eq_true h, Bool.true_and] at k; exact k
  · exact aRet_of hs (by have k := hK (n + 1); rw [decide_eq_false h, Bool.false_and] at k; exact k)

theorem empty_spec {e : St} {K : Cont} (hK : ∀ n', K (.bool (decide (e.state = 0))) g n') : AC array_empty_id [.agg (encS e).toArray] g n K := by
  refine ACalls.fold X0_mono ?_
  rw [← array_empty_eq]
  simp only [array_empty, kAgg_a]
  intro hn
  refine kLd_of (upd_same _ _ _) (encS_0 e) ?_
  simp only [kBin_eql]
  exact aRet_of ((Sub.refl g).new hn _) (hK _)

theorem setV_sl {A : Arr} {la ls : Nat} {line : Int} (hok : A.ok) (hh : ArrH g la ls A) (hl : 0 ≤ line) : Sl encS 11 g (setV ls A line) (A.part line) := by
  have h1 := Arr.from_le hok hl
  exact hh.row.sl encS_len (by rw [hok.2.2.2.1]; exact h1)

theorem at_spec {A : Arr} {la ls : Nat} {line : Int} (hok : A.ok) (hh : ArrH g la ls A) {K : Cont} (hK : ∀ n', K (idxV (A.at line)) g n') : AC array_Array_at_id [ptr la 0, .int .i64 line] g n K := by
  refine ACalls.fold X0_mono ?_
  rw [← array_Array_at_eq]
  simp only [array_Array_at]
  refine ⟨rfl, ?_⟩
  intro hn
  have hs := (Sub.refl g).new hn (some (.cells [.int .i64 line] .exact))
  have hl3 := upd_same g n (some (.cells [.int .i64 line] .exact))
  generalize upd g n (some (.cells [.int .i64 line] .exact)) = g1 at *
  simp only [kBin_p_eql]
  refine kSplit_f rfl (kLd_of hl3 rfl ?_)
  simp only [kBin_lss, kSplit_b, decide_eq_true_eq, decide_eq_false_iff_not]
  refine ⟨fun h => aRet_of hs ?_, fun h => ?_⟩
  · have := hK (n + 1)
    unfold Arr.at at this
    rw [if_pos h] at this
    exact this
  · refine kLd_of hl3 rfl ?_
    refine set_spec hok (hh.mono hs) (by omega) (fun n2 => ?_)
    refine IndexFunc_Slot_spec (fun s => decide (s.state ≠ 0) && decide (s.line = line)) (setV_sl hok (hh.mono hs) (by omega)) (fun g' n' e K hs' hK' => ?_) (by rw [Arr.part_len hok (by omega)]; have := hok.2.2.1; omega) (fun n3 => aRet_of hs ?_)
    · simp only [kCall_f]
      exact at1_spec (hs'.live hl3) hK'
    · have := hK n3
      unfold Arr.at at this
      rw [if_neg h] at this
      exact this

theorem number_spec {A : Arr} {la ls : Nat} (hok : A.ok) (hh : ArrH g la ls A) {K : Cont}
    (hK : ∀ n', K (.int .i64 (A.used + 1)) (upd g la (some (.cells (ArrC A.tick ls) .exact))) n') : AC array_Array_number_id [ptr la 0] g n K := by
  refine ACalls.fold X0_mono ?_
  rw [← array_Array_number_eq]
  simp only [array_Array_number, kNil_p, kPtr_p, Nat.zero_add]
  refine kLd_of hh.obj rfl ?_
  have hu := hok.2.2.2.2
  simp only [kBin_add]
  rw [wrap64_of (by omega) (by omega)]
  refine kSt_of hh.obj rfl (by simp [ArrC]) rfl ?_
  refine kLd_of (upd_same _ _ _) rfl ?_
  exact aRet_of (Sub.refl _) (hK _)
theorem ArrH.tick {A : Arr} {la ls : Nat} (hh : ArrH g la ls A) : ArrH (upd g la (some (.cells (ArrC A.tick ls) .exact))) la ls A.tick :=
  ⟨upd_same _ _ _, by show upd g la _ ls = _; rw [upd_ne _ _ (fun e => hh.ne e.symm)]; exact hh.row, hh.ne⟩
/-- a slot written: as a whole -/
theorem ArrH.stS {A : Arr} {la ls : Nat} {line : Int} {k : Nat} {s : St} {K : G → Prop} (hok : A.ok) (hl : 0 ≤ line) (hh : ArrH g la ls A) (hk : k < A.ways)
    (kk : ∀ g', Sub (hide g la ls) g' → ArrH g' la ls (A.put line k s) → K g') : kStN g ls (A.from line * 11 + k * 11) (encS s) K := by
  have h1 := Arr.from_le hok hl
  have h2 := hok.2.2.2.1
  rw [← Nat.add_mul]
  refine hh.row.stN encS_len encS_cell rfl (by omega) (fun hb => kk _ ?_ ⟨?_, hb, hh.ne⟩)
  · exact (hide_sub g la ls).upd_fresh _ (hide_ls _ _ _)
  · rw [upd_ne _ _ hh.ne]; exact hh.obj
theorem kFill_slot {a b u : Int} {d : Ln} {K : List Value → Prop} (k : K (encS ⟨a, b, d, u⟩)) : kFill (encS zeroS) [(0, none, .int .i64 a), (1, none, .int .i64 b), (2, some 8, .agg (encL d).toArray), (10, none, .int .i64 u)] K := by
  refine ⟨rfl, by rw [encS_len]; decide, rfl, by rw [List.length_set, encS_len]; decide, ?_⟩
  refine ⟨encL_len d, by simp [encS_len], rfl, ?_, ?_⟩
  · simp only [splice, List.length_append, List.length_take, List.length_drop, List.length_set, encS_len, encL_len]; omega
  · have : (splice ((((encS zeroS).set 0 (.int .i64 a)).set 1 (.int .i64 b))) 2 (encL d)).set 10 (.int .i64 u) = encS ⟨a, b, d, u⟩ := by
      have e : splice ((((encS zeroS).set 0 (.int .i64 a)).set 1 (.int .i64 b))) 2 (encL d) = [.int .i64 a, .int .i64 b] ++ encL d ++ [.int .i64 0] := by
        unfold splice
        rw [encL_len]
        rfl
      rw [e, List.set_append, if_neg (by simp [encL_len])]
      simp [encL_len, encS]
    rw [this]; exact k
end Go.Proofs.Ytncodeibkmekmab.Gen

namespace Go.Proofs.Ytncodeibkmekmab.Gen
open Go Go.Proofs.Ytncodeibkmekmab.Abs Go.RowKit
variable {g : G} {n : Nat}
theorem Arr.tick_ok {A : Arr} (h : A.ok) (hu : A.used < 100000) : A.tick.ok := by
  obtain ⟨h1, h2, h3, h4, h5, h6⟩ := h
  exact ⟨h1, h2, h3, h4, by show 0 ≤ A.used + 1; omega, by show A.used + 1 < 1000000; omega⟩

theorem Set_spec {A : Arr} {la ls : Nat} {line state : Int} {d : Ln} (hok : A.ok) (hu : A.used < 100000) (hh : ArrH g la ls A) {K : Cont}
    (hK : ∀ g' n', Sub (hide g la ls) g' → ArrH g' la ls (A.set line state d).2 → K (.int .i64 (A.set line state d).1) g' n') :
    AC array_Array_Set_id [ptr la 0, .int .i64 line, .int .i64 state, .agg (encL d).toArray] g n K := by
  refine ACalls.fold X0_mono ?_
  rw [← array_Array_Set_eq]
  simp only [array_Array_Set, kAgg_a]
  intro hn
  have hs := (Sub.refl g).new hn (some (.cells (encL d) .exact))
  have hl7 := upd_same g n (some (.cells (encL d) .exact))
  have hla := ne_of_live hh.obj hn
  generalize upd g n (some (.cells (encL d) .exact)) = g1 at *
  have hh1 := hh.mono hs
  have err : ∀ m, (line < 0 ∨ state < 1 ∨ 9 < state) → aRet K (.int .i64 1) g1 m := by
    intro m h
    have e : A.set line state d = (1, A) := by unfold Arr.set; rw [if_pos h]
    rw [e] at hK
    exact aRet_of (Sub.refl _) (hK _ _ ((hide_sub g la ls).trans hs) hh1)
  simp only [kBin_p_eql]
  refine kSplit_f rfl ?_
  simp only [kBin_lss, kBin_gtr, kSplit_b, decide_eq_true_eq, decide_eq_false_iff_not]
  refine ⟨fun h => err _ (.inl h), fun h1 => ⟨fun h => err _ (.inr (.inl h)), fun h2 => ⟨fun h => err _ (.inr (.inr h)), fun h3 => ?_⟩⟩⟩
  have hl : 0 ≤ line := by omega
  have hne : ¬ (line < 0 ∨ state < 1 ∨ 9 < state) := by omega
  have j1 : ∀ (t : Env) (m : Nat), t 0 = ptr la 0 → t 1 = .int .i64 line → t 2 = .int .i64 state → t 7 = ptr n 0 → t 9 = idxV ((A.at line).or (A.free line)) → t 10 = setV ls A line → array_Array_Set_j1 AC K t g1 m := by
    intro t m t0 t1 t2 t7 t9 t10
    simp only [array_Array_Set_j1, t0, t1, t2, t7, t9, t10]
    cases ho : (A.at line).or (A.free line) with
    | none =>
      have e : A.set line state d = (13, A) := by unfold Arr.set; rw [if_neg hne, ho]
      rw [e] at hK
      simp only [idxV, kBin_lss]
      exact kSplit_t rfl (aRet_of (Sub.refl _) (hK _ _ ((hide_sub g la ls).trans hs) hh1))
    | some k =>
      have e : A.set line state d = (0, A.tick.put line k ⟨state, line, d, A.used + 1⟩) := by unfold Arr.set; rw [if_neg hne, ho]
      rw [e] at hK
      have hk : k < A.ways := by
        cases ha : A.at line with
        | none => rw [ha] at ho; exact Arr.free_lt hok hl (by simpa using ho)
        | some k' => rw [ha] at ho; simp at ho; subst ho; exact (Arr.at_lt hok ha).2
      simp only [idxV, kBin_lss]
      refine kSplit_f (by simp) ?_
      simp only [kPtr_p]
      refine ldL hl7 ?_
      refine number_spec hok hh1 (fun n2 => ?_)
      refine ⟨upd_ne _ _ hla, kFill_slot ?_⟩
      refine kIndexAddr_s (by omega) (by omega) ?_
      simp only [kPtr_p, kAgg_a, Int.toNat_natCast]
      refine ⟨encS_len _, ArrH.stS (A := A.tick) (line := line) (Arr.tick_ok hok hu) hl hh1.tick hk (fun g' hs' hh' => aRet_of (Sub.refl _) (hK _ _ ?_ hh'))⟩
      rw [hide_upd] at hs'
      exact (hide_mono hs).trans hs'
  refine at_spec hok hh1 (fun n2 => ?_)
  refine set_spec hok hh1 hl (fun n3 => ?_)
  cases ha : A.at line with
  | none =>
    simp only [idxV, kBin_lss]
    refine kSplit_t rfl ?_
    refine IndexFunc_Slot_spec (fun s => decide (s.state = 0)) (setV_sl hok hh1 hl) (fun g' n' e K hs' hK' => ?_) (by rw [Arr.part_len hok hl]; have := hok.2.2.1; omega) (fun n4 => ?_)
    · simp only [kCall_f]
      exact empty_spec hK'
    · exact j1 _ _ rfl rfl rfl rfl (by rw [ha]; rfl) rfl
  | some k =>
    simp only [idxV, kBin_lss]
    refine kSplit_f (by simp) ?_
    exact j1 _ _ rfl rfl rfl rfl (by rw [ha]; rfl) rfl
end Go.Proofs.Ytncodeibkmekmab.Gen

namespace Go.Proofs.Ytncodeibkmekmab.Gen
open Go Go.Proofs.Ytncodeibkmekmab.Abs Go.RowKit
variable {g : G} {n : Nat}
theorem flat_set1 {α : Type} {enc : α → List Value} {z : Nat} (hz : ∀ x, (enc x).length = z) {xs : List α} {i j : Nat} {x y : α} {v : Value} (hi : xs[i]? = some x) (hj : j < z) (hy : enc y = (enc x).set j v) :
    ((xs.map enc).flatten).set (i * z + j) v = ((xs.set i y).map enc).flatten := by
  have hlt : i < xs.length := by rcases Nat.lt_or_ge i xs.length with h | h; exact h; rw [List.getElem?_eq_none h] at hi; cases hi
  have e : xs = xs.take i ++ x :: xs.drop (i + 1) := by
    rw [List.getElem?_eq_getElem hlt] at hi
    cases hi
    rw [← List.drop_eq_getElem_cons hlt, List.take_append_drop]
  have e2 : xs.set i y = xs.take i ++ y :: xs.drop (i + 1) := by rw [List.set_eq_take_append_cons_drop, if_pos hlt]
  have hl : ((xs.take i).map enc).flatten.length = i * z := by rw [flat_len enc z hz, List.length_take]; congr 1; omega
  rw [e2]
  conv => lhs; rw [e]
  simp only [List.map_append, List.map_cons, List.flatten_append, List.flatten_cons]
  rw [List.set_append, if_neg (by omega), hl, show i * z + j - i * z = j by omega, List.set_append, if_pos (by rw [hz]; exact hj), hy]

theorem Touch_spec {A : Arr} {la ls : Nat} {line : Int} (hok : A.ok) (hu : A.used < 100000) (hh : ArrH g la ls A) {K : Cont}
    (hK : ∀ g' n', Sub (hide g la ls) g' → ArrH g' la ls (A.touch line) → K (.tuple #[]) g' n') : AC array_Array_Touch_id [ptr la 0, .int .i64 line] g n K := by
  refine ACalls.fold X0_mono ?_
  rw [← array_Array_Touch_eq]
  simp only [array_Array_Touch]
  refine at_spec hok hh (fun n1 => ?_)
  cases ha : A.at line with
  | none =>
    have e : A.touch line = A := by unfold Arr.touch; rw [ha]
    rw [e] at hK
    simp only [idxV, kBin_geq]
    exact kSplit_f rfl (aRet_of (Sub.refl _) (hK _ _ (hide_sub g la ls) hh))
  | some k =>
    have e : A.touch line = A.tick.put line k { A.slotAt line k with used := A.used + 1 } := by unfold Arr.touch; rw [ha]
    rw [e] at hK
    obtain ⟨hl, hk⟩ := Arr.at_lt hok ha
    have h1 := Arr.from_le hok hl
    have h2 := hok.2.2.2.1
    simp only [idxV, kBin_geq]
    refine kSplit_t (by simp) ?_
    refine set_spec hok hh hl (fun n3 => ?_)
    refine number_spec hok hh (fun n4 => ?_)
    refine kIndexAddr_s (by omega) (by omega) ?_
    simp only [kPtr_p, Int.toNat_natCast]
    have hr := hh.tick.row
    have hlen : ((A.l.map encS).flatten).length = A.l.length * 11 := flat_len encS 11 encS_len _
    refine kSt_of hr rfl ?_ rfl ?_
    · show _ < ((A.l.map encS).flatten).length
      rw [hlen]; omega
    · have hx : A.l[A.from line + k]? = some (A.slotAt line k) := by
        unfold Arr.slotAt
        rw [List.getD_eq_getElem?_getD, List.getElem?_eq_getElem (by omega)]; rfl
      have hy : encS { A.slotAt line k with used := A.used + 1 } = (encS (A.slotAt line k)).set 10 (.int .i64 (A.used + 1)) := by
        unfold encS
        rw [List.set_append, if_neg (by simp [encL_len])]
        simp [encL_len]
      have := flat_set1 (z := 11) encS_len hx (by decide) hy
      rw [Nat.add_mul] at this
      show aRet K _ (upd _ ls (some (.cells (((A.l.map encS).flatten).set (A.from line * 11 + k * 11 + 10) (.int .i64 (A.used + 1))) .exact))) n4
      rw [this]
      refine aRet_of (Sub.refl _) (hK _ _ ?_ ⟨?_, upd_same _ _ _, hh.ne⟩)
      · have := (hide_sub (upd g la (some (.cells (ArrC A.tick ls) .exact))) la ls).upd_fresh (some (.cells ((A.l.set (A.from line + k) { A.slotAt line k with used := A.used + 1 }).map encS).flatten .exact)) (hide_ls _ _ _)
        rw [hide_upd] at this
        exact this
      · rw [upd_ne _ _ hh.ne]; exact hh.tick.obj

theorem Drop_spec {A : Arr} {la ls : Nat} {line : Int} (hok : A.ok) (hh : ArrH g la ls A) {K : Cont}
    (hK : ∀ g' n', Sub (hide g la ls) g' → ArrH g' la ls (A.drop line) → K (.bool (A.at line).isSome) g' n') : AC array_Array_Drop_id [ptr la 0, .int .i64 line] g n K := by
  refine ACalls.fold X0_mono ?_
  rw [← array_Array_Drop_eq]
  simp only [array_Array_Drop]
  refine at_spec hok hh (fun n1 => ?_)
  cases ha : A.at line with
  | none =>
    have e : A.drop line = A := by unfold Arr.drop; rw [ha]
    rw [e, ha] at hK
    simp only [idxV, kBin_geq]
    refine kSplit_f rfl ?_
    simp only [array_Array_Drop_j1]
    show kBin .int .geq (.int .i64 (-1)) (.int .i64 0) _
    simp only [kBin_geq]
    exact aRet_of (Sub.refl _) (hK _ _ (hide_sub g la ls) hh)
  | some k =>
    have e : A.drop line = A.put line k zeroS := by unfold Arr.drop; rw [ha]
    rw [e, ha] at hK
    obtain ⟨hl, hk⟩ := Arr.at_lt hok ha
    have hw := hok.2.2.1
    simp only [idxV, kBin_geq]
    refine kSplit_t (by simp) ?_
    refine set_spec hok hh hl (fun n3 => ?_)
    simp only [kFill_nil]
    refine kIndexAddr_s (by omega) (by omega) ?_
    simp only [kPtr_p, kAgg_a, Int.toNat_natCast]
    refine ⟨rfl, ArrH.stS (s := zeroS) hok hl hh hk (fun g' hs' hh' => ?_)⟩
    simp only [array_Array_Drop_j1]
    show kBin .int .geq (.int .i64 (k : Int)) (.int .i64 0) _
    simp only [kBin_geq]
    refine aRet_of (Sub.refl _) ?_
    have := hK _ n3 hs' hh'
    rw [decide_eq_true (by omega)]
    exact this

theorem Find_spec {A : Arr} {la ls : Nat} {line : Int} (hok : A.ok) (hh : ArrH g la ls A) {K : Cont}
    (hK : ∀ n', K (.tuple #[.agg (encS (A.find line).1).toArray, .bool (A.find line).2]) g n') : AC array_Array_Find_id [ptr la 0, .int .i64 line] g n K := by
  refine ACalls.fold X0_mono ?_
  rw [← array_Array_Find_eq]
  simp only [array_Array_Find]
  intro hn
  have hs := (Sub.refl g).new hn (some (.cells (encS zeroS) .exact))
  have hl4 := upd_same g n (some (.cells (encS zeroS) .exact))
  change AC _ _ (upd g n (some (.cells (encS zeroS) .exact))) _ _
  have hh1 := hh.mono hs
  refine at_spec hok hh1 (fun n1 => ?_)
  cases ha : A.at line with
  | none =>
    have e : A.find line = (zeroS, false) := by unfold Arr.find; rw [ha]
    rw [e] at hK
    simp only [idxV, kBin_lss]
    refine kSplit_t rfl ?_
    simp only [kFill_nil, kAgg_a]
    refine ⟨rfl, kStN_of hl4 rfl (Nat.le_refl 11) (encS_cell zeroS) ?_⟩
    refine ldS (x := zeroS) (upd_same _ _ _) ?_
    exact aRet_of (hs.upd_fresh _ hn) (hK _)
  | some k =>
    have e : A.find line = (A.slotAt line k, true) := by unfold Arr.find; rw [ha]
    rw [e] at hK
    obtain ⟨hl, hk⟩ := Arr.at_lt hok ha
    simp only [idxV, kBin_lss]
    refine kSplit_f (by simp) ?_
    refine set_spec hok hh1 hl (fun n3 => ?_)
    refine (setV_sl hok hh1 hl).idx encS_len (Arr.part_get hok hl hk) (fun l o hat => ?_)
    simp only [kPtr_p]
    refine hat.ldN (encS_len _).symm ?_
    simp only [kAgg_a]
    refine ⟨encS_len _, kStN_of hl4 rfl (by rw [encS_len, encS_len]; decide) (encS_cell _) ?_⟩
    rw [splice_all (by rw [encS_len, encS_len])]
    refine ldS (x := A.slotAt line k) (upd_same _ _ _) ?_
    exact aRet_of (hs.upd_fresh _ hn) (hK _)
end Go.Proofs.Ytncodeibkmekmab.Gen

namespace Go.Proofs.Ytncodeibkmekmab.Gen
open Go Go.Proofs.Ytncodeibkmekmab.Abs Go.RowKit
variable {g : G} {n : Nat}

theorem Room_spec {A : Arr} {la ls : Nat} {line : Int} (hok : A.ok) (hh : ArrH g la ls A) {K : Cont}
    (hK : ∀ n', K (.tuple #[.bool (A.room line).1, .int .i64 (A.room line).2]) g n') : AC array_Array_Room_id [ptr la 0, .int .i64 line] g n K := by
  refine ACalls.fold X0_mono ?_
  rw [← array_Array_Room_eq]
  simp only [array_Array_Room, kBin_p_eql]
  refine kSplit_f rfl ?_
  simp only [kBin_lss, kSplit_b, decide_eq_true_eq, decide_eq_false_iff_not]
  refine ⟨fun h => ?_, fun h => ?_⟩
  · unfold Arr.room at hK
    rw [if_pos h] at hK
    exact aRet_of (Sub.refl _) (hK _)
  have hl : 0 ≤ line := by omega
  have hw := hok.2.2.1
  have hpl := Arr.part_len hok hl
  unfold Arr.room at hK
  rw [if_neg h] at hK
  refine set_spec hok hh hl (fun n1 => ?_)
  unfold setV
  simp only [kLen_s]
  refine lfp_ind (fun m t g' n' => Sub g g' ∧ ∃ (i : Nat) (v last : Int), m = A.ways - i ∧ i ≤ A.ways ∧ t 17 = setV ls A line ∧ t 18 = .int .i64 A.ways ∧ t 19 = .int .i64 i ∧ t 5 = .int .i64 v ∧ t 6 = .int .i64 last ∧
      roomScan ((A.part line).drop i) v last = roomScan (A.part line) (-1) 0) ?_ (m := A.ways) ⟨Sub.refl _, 0, -1, 0, by simp, by simp, rfl, rfl, rfl, rfl, rfl, by simp⟩
  rintro I m t g1 n2 hI ⟨hs1, i, v, last, hm, hi, t17, t18, t19, t5, t6, hsc⟩
  simp only [array_Array_Room_l1, t17, t18, t19, kBin_lss, kSplit_b, decide_eq_true_eq, decide_eq_false_iff_not]
  refine ⟨fun hlt => ?_, fun hge => ?_⟩
  · have hlt : i < A.ways := by omega
    have he : (A.part line)[i]? = some (A.slotAt line i) := Arr.part_get hok hl hlt
    generalize A.slotAt line i = s at he
    rw [drop_get he] at hsc
    refine (setV_sl hok (hh.mono hs1) hl).idx encS_len he (fun l o hat => ?_)
    simp only [kPtr_p]
    refine hat.ldN (encS_len _).symm ?_
    intro hn
    simp only [kAgg_a]
    refine ⟨encS_len _, kStN_of (upd_same _ _ _) rfl (by rw [encS_len]; decide) (encS_cell _) ?_⟩
    rw [splice_all (cs := [.int .i64 0, .int .i64 0, .int .u64 0, .int .u64 0, .int .u64 0, .int .u64 0, .int .u64 0, .int .u64 0, .int .u64 0, .int .u64 0, .int .i64 0]) (by rw [encS_len]; rfl)]
    have hs2 := ((Sub.refl g1).new hn (some (.cells [.int .i64 0, .int .i64 0, .int .u64 0, .int .u64 0, .int .u64 0, .int .u64 0, .int .u64 0, .int .u64 0, .int .u64 0, .int .u64 0, .int .i64 0] .exact))).upd_fresh (some (.cells (encS s) .exact)) hn
    have hl8 := upd_same (upd g1 n2 (some (.cells [.int .i64 0, .int .i64 0, .int .u64 0, .int .u64 0, .int .u64 0, .int .u64 0, .int .u64 0, .int .u64 0, .int .u64 0, .int .u64 0, .int .i64 0] .exact))) n2 (some (.cells (encS s) .exact))
    generalize upd (upd g1 n2 (some (.cells [.int .i64 0, .int .i64 0, .int .u64 0, .int .u64 0, .int .u64 0, .int .u64 0, .int .u64 0, .int .u64 0, .int .u64 0, .int .u64 0, .int .i64 0] .exact))) n2 (some (.cells (encS s) .exact)) = g2 at *
    have hsg := hs1.trans hs2
    have next : ∀ (t : Env) (m : Nat) (v' last' : Int), t 17 = setV ls A line → t 18 = .int .i64 A.ways → t 5 = .int .i64 v' → t 6 = .int .i64 last' → t 19 = .int .i64 ((i + 1 : Nat) : Int) → roomScan ((A.part line).drop (i + 1)) v' last' = roomScan (A.part line) (-1) 0 → I t g2 m := by
      intro t m v' last' t17 t18 t5 t6 t19 h
      exact hI (A.ways - (i + 1)) _ _ _ (by omega) ⟨hsg, i + 1, v', last', rfl, by omega, t17, t18, t19, t5, t6, h⟩
    have j2 : ∀ (t : Env) (m : Nat), s.state ≠ 0 → t 17 = setV ls A line → t 18 = .int .i64 A.ways → t 19 = .int .i64 i → t 5 = .int .i64 v → t 6 = .int .i64 last → t 8 = ptr n2 0 → t 27 = .bool (decide (1 ≤ s.state ∧ s.state ≤ 3)) → array_Array_Room_j2 AC K I t g2 m := by
      intro t m h0 t17 t18 t19 t5 t6 t8 t27
      simp only [array_Array_Room_j2, t27, t5, t6, t8, t19, kPtr_p, kBin_lss, kBin_add, kSplit_b, decide_eq_true_eq, decide_eq_false_iff_not]
      rw [wrapNat (by omega)]
      simp only [roomScan, if_neg h0] at hsc
      have ld1 : ∀ {K' : Value → Prop}, K' (.int .i64 s.line) → kLd g2 n2 (0 + 1) K' := fun k => kLd_of hl8 (encS_1 s) k
      have ld10 : ∀ {K' : Value → Prop}, K' (.int .i64 s.used) → kLd g2 n2 (0 + 10) K' := fun k => kLd_of hl8 (encS_10 s) k
      refine ⟨fun hr => ⟨fun hv => ld1 (ld10 ?_), fun hv => ld10 ?_⟩, fun hr => ?_⟩
      · rw [if_pos ⟨hr.1, hr.2, .inl hv⟩] at hsc
        exact next _ _ _ _ t17 t18 rfl rfl rfl hsc
      · simp only [kBin_lss, kSplit_b, decide_eq_true_eq, decide_eq_false_iff_not]
        refine ⟨fun hu => ld1 (ld10 ?_), fun hu => ?_⟩
        · rw [if_pos ⟨hr.1, hr.2, .inr hu⟩] at hsc
          exact next _ _ _ _ t17 t18 rfl rfl rfl hsc
        · rw [if_neg (by omega)] at hsc
          exact next _ _ _ _ t17 t18 t5 t6 rfl hsc
      · rw [if_neg (by omega)] at hsc
        exact next _ _ _ _ t17 t18 t5 t6 rfl hsc
    refine kLd_of hl8 (encS_0 s) ?_
    simp only [kBin_eql, kSplit_b, decide_eq_true_eq, decide_eq_false_iff_not]
    refine ⟨fun h0 => ?_, fun h0 => ⟨fun h1 => ?_, fun h1 => ⟨fun h2 => ?_, fun h2 => ?_⟩⟩⟩
    · simp only [roomScan, if_pos h0] at hsc
      rw [← hsc] at hK
      exact aRet_of hsg (hK _)
    · exact j2 _ _ h0 t17 t18 t19 t5 t6 rfl (by rw [show decide (1 ≤ s.state ∧ s.state ≤ 3) = true from by rw [decide_eq_true_eq]; omega]; show Value.bool _ = _; rw [decide_eq_true h1])
    · exact j2 _ _ h0 t17 t18 t19 t5 t6 rfl (by rw [show decide (1 ≤ s.state ∧ s.state ≤ 3) = true from by rw [decide_eq_true_eq]; omega]; show Value.bool _ = _; rw [decide_eq_true h2])
    · refine j2 _ _ h0 t17 t18 t19 t5 t6 rfl ?_
      show Value.bool (decide (s.state = 3)) = _
      congr 1
      rw [decide_eq_decide]; omega
  · have : i = A.ways := by omega
    subst this
    rw [List.drop_of_length_le (by omega)] at hsc
    simp only [roomScan] at hsc
    rw [← hsc] at hK
    simp only [array_Array_Room_j3]
    show aRet K (.tuple #[.bool false, t 5]) g1 n2
    rw [t5]
    exact aRet_of hs1 (hK _)
end Go.Proofs.Ytncodeibkmekmab.Gen

namespace Go.Proofs.Ytncodeibkmekmab.Gen
open Go Go.Proofs.Ytncodeibkmekmab.Abs Go.RowKit
variable {g : G} {n : Nat}

@[simp] theorem kBin_s_eql {a : Addr} {m c : Nat} {K : Value → Prop} : kBin .slice .eql (.slice (some a) m c) (.slice none 0 0) K = K (.bool false) := rfl

theorem Clone_Slot_spec {v : Value} {l o m c : Nat} {xs : List St} (hv : v = .slice (some ⟨l, o, none⟩) m c) (h : Sl encS 11 g v xs) (hlen : xs.length < 1000000) {K : Cont}
    (hK : ∀ v' g' n', Sub g g' → OwnS encS 11 g g' v' xs → K v' g' n') : AC slices_Clone_array_Slot_array_Slot_id [v] g n K := by
  subst hv
  refine ACalls.fold X0_mono ?_
  rw [← slices_Clone_array_Slot_array_Slot_eq]
  simp only [slices_Clone_array_Slot_array_Slot, kBin_s_eql]
  refine kSplit_f rfl ?_
  simp only [kFill_nil]
  intro hn
  have hs := (Sub.refl g).new hn (some (.cells (reps 0 [.int .i64 0, .int .i64 0, .int .u64 0, .int .u64 0, .int .u64 0, .int .u64 0, .int .u64 0, .int .u64 0, .int .u64 0, .int .u64 0, .int .i64 0]) .exact))
  refine OwnS.append (g0 := g) (xs := ([] : List St)) OwnS.empty hs (h.mono hs) encS_cell (by decide) (by simp; omega) (by simp; omega) (fun v' g' n' hs' ho' _ _ => aRet_of (Sub.refl _) (hK _ _ _ hs' ?_))
  simpa using ho'

theorem Slots_spec {A : Arr} {la ls : Nat} (hok : A.ok) (hh : ArrH g la ls A) {K : Cont}
    (hK : ∀ v' g' n', Sub g g' → Sl encS 11 g' v' A.slots → K v' g' n') : AC array_Array_Slots_id [ptr la 0] g n K := by
  refine ACalls.fold X0_mono ?_
  rw [← array_Array_Slots_eq]
  simp only [array_Array_Slots, kBin_p_eql]
  refine kSplit_f rfl ?_
  simp only [kNil_p, kPtr_p, Nat.zero_add]
  refine kLd_of hh.obj rfl ?_
  have hlen : A.l.length < 1000000 := by have := Arr.small hok; have := hok.2.2.2.1; omega
  have hsl : Sl encS 11 g (.slice (some ⟨ls, 0, none⟩) (A.sets * A.ways) (A.sets * A.ways)) A.l := by
    have := hh.row.sl (i := 0) (m := A.sets * A.ways) (c := A.sets * A.ways) encS_len (by rw [hok.2.2.2.1]; omega)
    rw [Nat.zero_mul, List.drop_zero, List.take_of_length_le (by rw [hok.2.2.2.1]; exact Nat.le_refl _)] at this
    exact this
  refine Clone_Slot_spec rfl hsl hlen (fun v1 g1 n1 hs1 ho1 => ?_)
  refine DeleteFunc_Slot_spec (fun s => decide (s.state = 0)) ho1 hs1 (fun g' n' e K hs' hK' => ?_) hlen (fun v2 g2 n2 hs2 h2 => aRet_of (Sub.refl _) (hK _ _ _ hs2 h2))
  simp only [kCall_f]
  exact empty_spec hK'

def arr0 (s w : Nat) : Arr := ⟨s, w, List.replicate (s * w) zeroS, 0⟩
theorem arr0_ok {s w : Nat} (hs : s = 1 ∨ s = 2 ∨ s = 4 ∨ s = 8) (h1 : 1 ≤ w) (h2 : w ≤ 8) : (arr0 s w).ok := ⟨hs, h1, h2, by simp [arr0], by simp [arr0], by simp [arr0]⟩
def goodA (s w : Int) : Prop := (s = 1 ∨ s = 2 ∨ s = 4 ∨ s = 8) ∧ 1 ≤ w ∧ w ≤ 8
theorem New_tail {s w : Nat} (hsm : s * w ≤ 64) {K : Cont} (hK : ∀ la ls g' n', Sub g g' → g la = none → g ls = none → ArrH g' la ls (arr0 s w) → K (.tuple #[ptr la 0, .int .i64 0]) g' n') :
    kMake (.int .i64 ((s * w : Nat) : Int)) (.int .i64 ((s * w : Nat) : Int)) (encS zeroS) 88 g n fun v33 g3 n33 =>
    kFill [(.int .i64 0), (.int .i64 0), (.slice none 0 0), (.int .i64 0)] [(0, none, .int .i64 s), (1, none, .int .i64 w), (2, none, v33)] fun c34 =>
    kAgg (.agg c34.toArray) fun c35 =>
    kNew c35 .exact g3 n33 fun l35 g4 n35 =>
    aRet K (.tuple #[(ptr l35 0), (.int .i64 0)]) g4 n35 := by
  refine ⟨by omega, by omega, by omega, by omega, ?_⟩
  intro hn
  simp only [Int.toNat_natCast]
  refine ⟨rfl, by simp, rfl, by simp, rfl, by simp, ?_⟩
  simp only [kFill_nil, kAgg_a]
  intro hn2
  have hs1 := (Sub.refl g).new hn (some (.cells (reps (s * w) (encS zeroS)) .exact))
  have hne := ne_of_live (upd_same g n (some (.cells (reps (s * w) (encS zeroS)) .exact))) hn2
  refine aRet_of (Sub.refl _) (hK _ _ _ _ (hs1.new hn2 _) (hs1.none hn2) hn ⟨upd_same _ _ _, ?_, hne⟩)
  show upd _ _ _ _ = _
  rw [upd_ne _ _ (fun e => hne e.symm), upd_same, flat_reps]
  rfl
theorem New_body {s w : Int} {K : Cont} (hbad : ¬ goodA s w → ∀ n', K (.tuple #[.pointer none, .int .i64 1]) g n')
    (hK : goodA s w → ∀ la ls g' n', Sub g g' → g la = none → g ls = none → ArrH g' la ls (arr0 s.toNat w.toNat) → K (.tuple #[ptr la 0, .int .i64 0]) g' n') : array_New AC (.int .i64 s) (.int .i64 w) g n K := by
  simp only [array_New, kBin_neq, kBin_lss, kBin_gtr, kBin_mul, kSplit_b, decide_eq_true_eq, decide_eq_false_iff_not]
  have bad : ¬ goodA s w → aRet K (.tuple #[.pointer none, .int .i64 1]) g n := fun h => aRet_of (Sub.refl _) (hbad h _)
  have tail : (s = 1 ∨ s = 2 ∨ s = 4 ∨ s = 8) → ((w < 1 → aRet K (.tuple #[.pointer none, .int .i64 1]) g n) ∧ (¬ w < 1 → (8 < w → aRet K (.tuple #[.pointer none, .int .i64 1]) g n) ∧ (¬ 8 < w →
      kMake (.int .i64 (IntKind.i64.wrap (s * w))) (.int .i64 (IntKind.i64.wrap (s * w))) [(.int .i64 0), (.int .i64 0), (.int .u64 0), (.int .u64 0), (.int .u64 0), (.int .u64 0), (.int .u64 0), (.int .u64 0), (.int .u64 0), (.int .u64 0), (.int .i64 0)] 88 g n fun v33 g3 n33 =>
      kFill [(.int .i64 0), (.int .i64 0), (.slice none 0 0), (.int .i64 0)] [(0, none, .int .i64 s), (1, none, .int .i64 w), (2, none, v33)] fun c34 =>
      kAgg (.agg c34.toArray) fun c35 =>
      kNew c35 .exact g3 n33 fun l35 g4 n35 =>
      aRet K (.tuple #[(ptr l35 0), (.int .i64 0)]) g4 n35))) := by
    intro hs
    refine ⟨fun h => bad (fun hg => by have := hg.2; omega), fun h1 => ⟨fun h => bad (fun hg => by have := hg.2; omega), fun h2 => ?_⟩⟩
    obtain ⟨s', rfl⟩ : ∃ s' : Nat, s = s' := ⟨s.toNat, by omega⟩
    obtain ⟨w', rfl⟩ : ∃ w' : Nat, w = w' := ⟨w.toNat, by omega⟩
    have hsm : s' * w' ≤ 64 := by
      have := Nat.mul_le_mul (show s' ≤ 8 by omega) (show w' ≤ 8 by omega)
      omega
    rw [← Int.natCast_mul, wrap64_of (by omega) (by omega)]
    exact New_tail hsm (fun la ls g' n' a b c d => hK ⟨hs, by omega, by omega⟩ la ls g' n' a b c d)
  refine ⟨fun h1 => ⟨fun h2 => ⟨fun h4 => ⟨fun h8 => bad (fun hg => by have := hg.1; omega), fun h8 => tail (by omega)⟩, fun h4 => tail (by omega)⟩, fun h2 => tail (by omega)⟩, fun h1 => tail (by omega)⟩
theorem New_spec {s w : Int} {K : Cont} (hbad : ¬ goodA s w → ∀ n', K (.tuple #[.pointer none, .int .i64 1]) g n')
    (hK : goodA s w → ∀ la ls g' n', Sub g g' → g la = none → g ls = none → ArrH g' la ls (arr0 s.toNat w.toNat) → K (.tuple #[ptr la 0, .int .i64 0]) g' n') : AC array_New_id [.int .i64 s, .int .i64 w] g n K := by
  refine ACalls.fold X0_mono ?_
  rw [← array_New_eq]
  exact New_body hbad hK
end Go.Proofs.Ytncodeibkmekmab.Gen

namespace Go.Proofs.Ytncodeibkmekmab.Gen
open Go Go.Proofs.Ytncodeibkmekmab.Abs Go.RowKit

/-- what always holds of an array's slots -/
structure Arr.wf (A : Arr) : Prop where
  place : ∀ (i : Nat) (s : St), A.l[i]? = some s → s.state ≠ 0 → 0 ≤ s.line ∧ A.from s.line ≤ i ∧ i < A.from s.line + A.ways ∧ 1 ≤ s.state ∧ s.state ≤ 9
  once : ∀ (i j : Nat) (s t : St), A.l[i]? = some s → A.l[j]? = some t → s.state ≠ 0 → t.state ≠ 0 → (s.line = t.line ∨ s.used = t.used) → i = j
  used : ∀ (i : Nat) (s : St), A.l[i]? = some s → s.state ≠ 0 → 1 ≤ s.used ∧ s.used ≤ A.used

theorem Arr.part_idx {A : Arr} {line : Int} {k : Nat} (hk : k < A.ways) : (A.part line)[k]? = A.l[A.from line + k]? := by
  unfold Arr.part
  rw [List.getElem?_take, if_pos hk, List.getElem?_drop]
/-- where a line stands -/
theorem Arr.at_some {A : Arr} (h : A.ok) {line : Int} {k : Nat} (hk : A.at line = some k) : ∃ s, A.l[A.from line + k]? = some s ∧ s.state ≠ 0 ∧ s.line = line ∧ A.slotAt line k = s := by
  obtain ⟨hl, hlt⟩ := Arr.at_lt h hk
  unfold Arr.at at hk
  rw [if_neg (by omega)] at hk
  obtain ⟨h1, h2, _⟩ := List.findIdx?_eq_some_iff_getElem.1 hk
  have e2 := Arr.part_get h hl hlt
  rw [Arr.part_idx hlt] at e2
  simp only [Bool.and_eq_true, decide_eq_true_eq] at h2
  refine ⟨_, e2, ?_⟩
  have e3 : (A.part line)[k] = A.slotAt line k := by
    have := Arr.part_get h hl hlt
    rw [List.getElem?_eq_getElem h1] at this
    exact Option.some.inj this
  rw [e3] at h2
  exact ⟨h2.1, h2.2, rfl⟩
theorem Arr.at_none {A : Arr} (h : A.ok) (hw : A.wf) {line : Int} (hk : A.at line = none) : ∀ (i : Nat) (s : St), A.l[i]? = some s → s.state ≠ 0 → s.line ≠ line := by
  intro i s hi hs e
  subst e
  obtain ⟨h0, h1, h2, _⟩ := hw.place i s hi hs
  unfold Arr.at at hk
  rw [if_neg (by omega), List.findIdx?_eq_none_iff] at hk
  have hm : s ∈ A.part s.line := by
    have : (A.part s.line)[i - A.from s.line]? = some s := by
      rw [Arr.part_idx (by omega), show A.from s.line + (i - A.from s.line) = i by omega]; exact hi
    exact List.mem_of_getElem? this
  have := hk s hm
  simp [hs] at this
theorem Arr.at_of {A : Arr} (h : A.ok) (hw : A.wf) {i : Nat} {s : St} (hi : A.l[i]? = some s) (hs : s.state ≠ 0) : A.at s.line = some (i - A.from s.line) := by
  cases ha : A.at s.line with
  | none => exact absurd rfl (Arr.at_none h hw ha i s hi hs)
  | some k =>
    obtain ⟨t, ht, ht0, hl, _⟩ := Arr.at_some h ha
    have := hw.once _ _ _ _ ht hi ht0 hs (.inl hl)
    congr 1; omega
theorem Arr.free_some {A : Arr} (h : A.ok) {line : Int} (hl : 0 ≤ line) {k : Nat} (hk : A.free line = some k) : ∃ s, A.l[A.from line + k]? = some s ∧ s.state = 0 := by
  have hlt := Arr.free_lt h hl hk
  obtain ⟨h1, h2, _⟩ := List.findIdx?_eq_some_iff_getElem.1 hk
  refine ⟨(A.part line)[k], ?_, by simpa using h2⟩
  rw [← Arr.part_idx hlt, List.getElem?_eq_getElem h1]
theorem Arr.free_none {A : Arr} {line : Int} (hk : A.free line = none) : ∀ (k : Nat) (s : St), k < A.ways → A.l[A.from line + k]? = some s → s.state ≠ 0 := by
  intro k s hlt hi
  unfold Arr.free at hk
  rw [List.findIdx?_eq_none_iff] at hk
  have := hk s (List.mem_of_getElem? (by rw [Arr.part_idx hlt]; exact hi))
  simpa using this
theorem Arr.part_mem {A : Arr} {line : Int} {s : St} (hm : s ∈ A.part line) : ∃ i, A.l[i]? = some s ∧ A.from line ≤ i ∧ i < A.from line + A.ways := by
  obtain ⟨j, hj⟩ := List.getElem?_of_mem hm
  unfold Arr.part at hj
  rw [List.getElem?_take] at hj
  split at hj
  · rename_i hlt
    rw [List.getElem?_drop] at hj
    exact ⟨_, hj, by omega, by omega⟩
  · cases hj
theorem Arr.slotAt_get {A : Arr} (h : A.ok) {line : Int} (hl : 0 ≤ line) {k : Nat} (hk : k < A.ways) : A.l[A.from line + k]? = some (A.slotAt line k) := by
  rw [← Arr.part_idx hk]; exact Arr.part_get h hl hk
/-- a slot is written with a new number: of a line of this set that stands here, or nowhere -/
theorem Arr.put_wf {A : Arr} (h : A.ok) (hw : A.wf) {line : Int} (hl : 0 ≤ line) {k : Nat} (hk : k < A.ways) {s : St} (hs : s.line = line) (hu : s.used = A.used + 1) (h1 : 1 ≤ s.state) (h9 : s.state ≤ 9)
    (hat : ∀ (i : Nat) (t : St), A.l[i]? = some t → t.state ≠ 0 → t.line = line → i = A.from line + k) : (A.tick.put line k s).wf := by
  have hf := Arr.from_le h hl
  have hu0 := h.2.2.2.2.1
  have key : ∀ (i : Nat) (t : St), (A.tick.put line k s).l[i]? = some t → (i = A.from line + k ∧ t = s) ∨ (i ≠ A.from line + k ∧ A.l[i]? = some t) := by
    intro i t hi
    have hi : (A.l.set (A.from line + k) s)[i]? = some t := hi
    rw [List.getElem?_set] at hi
    split at hi
    · rename_i e
      split at hi
      · cases hi; exact .inl ⟨e.symm, rfl⟩
      · cases hi
    · rename_i e; exact .inr ⟨fun x => e x.symm, hi⟩
  refine ⟨?_, ?_, ?_⟩
  · intro i t hi ht
    rcases key i t hi with ⟨rfl, rfl⟩ | ⟨_, hi⟩
    · rw [hs]
      exact ⟨hl, by show A.from line ≤ _; omega, by show _ < A.from line + A.ways; omega, h1, h9⟩
    · exact hw.place i t hi ht
  · intro i j t t' hi hj ht ht' e
    rcases key i t hi with ⟨e1, e2⟩ | ⟨ni, hi2⟩ <;> rcases key j t' hj with ⟨e3, e4⟩ | ⟨nj, hj2⟩
    · rw [e1, e3]
    · rw [e2] at e
      rcases e with e | e
      · rw [e1]; exact (hat j t' hj2 ht' (by rw [← e, hs])).symm
      · have := hw.used j t' hj2 ht'; omega
    · rw [e4] at e
      rcases e with e | e
      · rw [e3]; exact hat i t hi2 ht (by rw [e, hs])
      · have := hw.used i t hi2 ht; omega
    · exact hw.once i j t t' hi2 hj2 ht ht' e
  · intro i t hi ht
    rcases key i t hi with ⟨rfl, rfl⟩ | ⟨_, hi⟩
    · exact ⟨by omega, by show t.used ≤ A.used + 1; omega⟩
    · have := hw.used i t hi ht
      exact ⟨this.1, by show t.used ≤ A.used + 1; omega⟩
theorem Arr.set_wf {A : Arr} (h : A.ok) (hw : A.wf) (line state : Int) (d : Ln) : (A.set line state d).2.wf := by
  unfold Arr.set
  split
  · exact hw
  · rename_i hc
    have hl : 0 ≤ line := by omega
    cases ha : A.at line with
    | some k =>
      obtain ⟨t, ht, ht0, htl, _⟩ := Arr.at_some h ha
      obtain ⟨_, hk⟩ := Arr.at_lt h ha
      simp only [Option.some_or]
      exact Arr.put_wf h hw hl hk rfl rfl (by show 1 ≤ state; omega) (by show state ≤ 9; omega) (fun i t' hi ht' e => hw.once _ _ _ _ hi ht ht' ht0 (.inl (by rw [e, htl])))
    | none =>
      simp only [Option.none_or]
      cases hf : A.free line with
      | none => exact hw
      | some k =>
        exact Arr.put_wf h hw hl (Arr.free_lt h hl hf) rfl rfl (by show 1 ≤ state; omega) (by show state ≤ 9; omega) (fun i t' hi ht' e => absurd e (Arr.at_none h hw ha i t' hi ht'))
theorem Arr.touch_wf {A : Arr} (h : A.ok) (hw : A.wf) (line : Int) : (A.touch line).wf := by
  unfold Arr.touch
  cases ha : A.at line with
  | none => exact hw
  | some k =>
    obtain ⟨t, ht, ht0, htl, hst⟩ := Arr.at_some h ha
    obtain ⟨hl, hk⟩ := Arr.at_lt h ha
    have hp := hw.place _ _ ht ht0
    refine Arr.put_wf h hw hl hk ?_ rfl ?_ ?_ (fun i t' hi ht' e => hw.once _ _ _ _ hi ht ht' ht0 (.inl (by rw [e, htl])))
    · show (A.slotAt line k).line = line; rw [hst]; exact htl
    · show 1 ≤ (A.slotAt line k).state; rw [hst]; exact hp.2.2.2.1
    · show (A.slotAt line k).state ≤ 9; rw [hst]; exact hp.2.2.2.2
theorem Arr.drop_wf {A : Arr} (hw : A.wf) (line : Int) : (A.drop line).wf := by
  unfold Arr.drop
  cases ha : A.at line with
  | none => exact hw
  | some k =>
    have key : ∀ (i : Nat) (t : St), (A.put line k zeroS).l[i]? = some t → t.state ≠ 0 → A.l[i]? = some t := by
      intro i t hi ht
      have hi : (A.l.set (A.from line + k) zeroS)[i]? = some t := hi
      rw [List.getElem?_set] at hi
      split at hi
      · split at hi
        · cases hi; exact absurd rfl ht
        · cases hi
      · exact hi
    exact ⟨fun i t hi ht => hw.place i t (key i t hi ht) ht, fun i j t t' hi hj ht ht' e => hw.once i j t t' (key i t hi ht) (key j t' hj ht') ht ht' e, fun i t hi ht => hw.used i t (key i t hi ht) ht⟩
theorem arr0_wf (s w : Nat) : (arr0 s w).wf := by
  have key : ∀ (i : Nat) (t : St), (arr0 s w).l[i]? = some t → t.state = 0 := by
    intro i t hi
    have := List.mem_of_getElem? hi
    have := (List.mem_replicate.1 this).2
    subst this; rfl
  exact ⟨fun i t hi ht => absurd (key i t hi) ht, fun i j t t' hi hj ht ht' e => absurd (key i t hi) ht, fun i t hi ht => absurd (key i t hi) ht⟩
theorem Arr.set_ok {A : Arr} (h : A.ok) (hu : A.used < 100000) (line state : Int) (d : Ln) : (A.set line state d).2.ok := by
  unfold Arr.set
  split
  · exact h
  · split
    · exact h
    · exact Arr.put_ok (Arr.tick_ok h hu) _ _ _
theorem Arr.touch_ok {A : Arr} (h : A.ok) (hu : A.used < 100000) (line : Int) : (A.touch line).ok := by
  unfold Arr.touch
  split
  · exact h
  · exact Arr.put_ok (Arr.tick_ok h hu) _ _ _
theorem Arr.drop_ok {A : Arr} (h : A.ok) (line : Int) : (A.drop line).ok := by
  unfold Arr.drop
  split
  · exact h
  · exact Arr.put_ok h _ _ _
theorem Arr.set_used (A : Arr) (line state : Int) (d : Ln) : A.used ≤ (A.set line state d).2.used ∧ (A.set line state d).2.used ≤ A.used + 1 := by
  unfold Arr.set
  split
  · exact ⟨Int.le_refl _, by show A.used ≤ A.used + 1; omega⟩
  · split
    · exact ⟨Int.le_refl _, by show A.used ≤ A.used + 1; omega⟩
    · exact ⟨by show A.used ≤ A.used + 1; omega, by show A.used + 1 ≤ A.used + 1; omega⟩
theorem Arr.touch_used (A : Arr) (line : Int) : A.used ≤ (A.touch line).used ∧ (A.touch line).used ≤ A.used + 1 := by
  unfold Arr.touch
  split
  · exact ⟨Int.le_refl _, by omega⟩
  · exact ⟨by show A.used ≤ A.used + 1; omega, by show A.used + 1 ≤ A.used + 1; omega⟩
theorem Arr.drop_used (A : Arr) (line : Int) : (A.drop line).used = A.used := by
  unfold Arr.drop
  split <;> rfl

/-! who is put out -/
def St.rest (s : St) : Prop := 1 ≤ s.state ∧ s.state ≤ 3
theorem roomScan_free : ∀ (l : List St) (v last : Int), (∃ s ∈ l, s.state = 0) → roomScan l v last = (true, -1)
  | [], _, _, h => by obtain ⟨_, h, _⟩ := h; cases h
  | s :: l, v, last, h => by
    unfold roomScan
    by_cases h0 : s.state = 0
    · rw [if_pos h0]
    · rw [if_neg h0]
      have : ∃ t ∈ l, t.state = 0 := by
        obtain ⟨t, ht, e⟩ := h
        rcases List.mem_cons.1 ht with rfl | ht
        · exact absurd e h0
        · exact ⟨t, ht, e⟩
      split <;> exact roomScan_free l _ _ this
/-- nobody is empty: who was used longest ago of those at rest, -1 if there is none -/
theorem roomScan_full : ∀ (l : List St) (v last : Int), (∀ s ∈ l, s.state ≠ 0) → (∀ s ∈ l, s.rest → 0 ≤ s.line) → (v = -1 ∨ 0 ≤ v) →
    ∃ v', roomScan l v last = (false, v') ∧ ((v' = -1 ∧ v = -1 ∧ ∀ s ∈ l, ¬ s.rest) ∨
      ∃ u, ((v' = v ∧ u = last ∧ 0 ≤ v) ∨ ∃ s ∈ l, s.rest ∧ s.line = v' ∧ s.used = u) ∧ (0 ≤ v → u ≤ last) ∧ ∀ s ∈ l, s.rest → u ≤ s.used)
  | [], v, last, _, _, hv => by
    refine ⟨v, rfl, ?_⟩
    rcases hv with rfl | hv
    · exact .inl ⟨rfl, rfl, by simp⟩
    · exact .inr ⟨last, .inl ⟨rfl, rfl, hv⟩, fun _ => Int.le_refl _, by simp⟩
  | s :: l, v, last, h0, hl, hv => by
    unfold roomScan
    rw [if_neg (h0 s (by simp))]
    have h0' : ∀ s ∈ l, s.state ≠ 0 := fun t ht => h0 t (by simp [ht])
    have hl' : ∀ s ∈ l, s.rest → 0 ≤ s.line := fun t ht => hl t (by simp [ht])
    by_cases hr : s.rest
    · have hls := hl s (by simp) hr
      by_cases hc : v < 0 ∨ s.used < last
      · rw [if_pos ⟨hr.1, hr.2, hc⟩]
        obtain ⟨v', e, hh⟩ := roomScan_full l s.line s.used h0' hl' (.inr hls)
        refine ⟨v', e, .inr ?_⟩
        rcases hh with ⟨_, h, _⟩ | ⟨u, h1, h2, h3⟩
        · omega
        · have h2 := h2 hls
          refine ⟨u, .inr ?_, fun _ => by omega, ?_⟩
          · rcases h1 with ⟨rfl, rfl, _⟩ | ⟨t, ht, h1⟩
            · exact ⟨s, by simp, hr, rfl, rfl⟩
            · exact ⟨t, by simp [ht], h1⟩
          · intro t ht
            rcases List.mem_cons.1 ht with rfl | ht
            · exact fun _ => h2
            · exact h3 t ht
      · rw [if_neg (fun h => hc h.2.2)]
        obtain ⟨v', e, hh⟩ := roomScan_full l v last h0' hl' hv
        refine ⟨v', e, .inr ?_⟩
        rcases hh with ⟨_, h, _⟩ | ⟨u, h1, h2, h3⟩
        · omega
        · have h2' := h2 (by omega)
          refine ⟨u, ?_, h2, ?_⟩
          · rcases h1 with h1 | ⟨t, ht, h1⟩
            · exact .inl h1
            · exact .inr ⟨t, by simp [ht], h1⟩
          · intro t ht
            rcases List.mem_cons.1 ht with rfl | ht
            · intro _; omega
            · exact h3 t ht
    · rw [if_neg (fun h => hr ⟨h.1, h.2.1⟩)]
      obtain ⟨v', e, hh⟩ := roomScan_full l v last h0' hl' hv
      refine ⟨v', e, ?_⟩
      rcases hh with ⟨h1, h2, h3⟩ | ⟨u, h1, h2, h3⟩
      · refine .inl ⟨h1, h2, fun t ht => ?_⟩
        rcases List.mem_cons.1 ht with rfl | ht
        · exact hr
        · exact h3 t ht
      · refine .inr ⟨u, ?_, h2, fun t ht => ?_⟩
        · rcases h1 with h1 | ⟨t, ht, h1⟩
          · exact .inl h1
          · exact .inr ⟨t, by simp [ht], h1⟩
        · rcases List.mem_cons.1 ht with rfl | ht
          · exact fun h => absurd h hr
          · exact h3 t ht
end Go.Proofs.Ytncodeibkmekmab.Gen

namespace Go.Proofs.Ytncodeibkmekmab.Gen
open Go Go.Proofs.Ytncodeibkmekmab.Abs Go.RowKit
variable {g : G} {n : Nat}

theorem encS_data (s : St) : ((encS s).drop 2).take 8 = encL s.data := by
  show ((encL s.data ++ [Value.int .i64 s.used]).take 8) = _
  rw [List.take_left' (encL_len _)]
/-- a line stands, in this slot -/
def Has (A : Arr) (m : Int) (s : St) : Prop := ∃ i : Nat, A.l[i]? = some s ∧ s.state ≠ 0 ∧ s.line = m
theorem Has.put {A : Arr} {m line : Int} {k : Nat} {s t : St} (h : Has A m s) (hk : ∀ u, A.l[A.from line + k]? = some u → u.state = 0 ∨ u.line ≠ m) : Has (A.put line k t) m s := by
  obtain ⟨i, hi, h0, hm⟩ := h
  refine ⟨i, ?_, h0, hm⟩
  show (A.l.set (A.from line + k) t)[i]? = some s
  rw [List.getElem?_set_ne]; exact hi
  intro e
  subst e
  rcases hk s hi with e | e
  · exact h0 e
  · exact e hm
theorem Has.set {A : Arr} (hok : A.ok) {m line state : Int} {d : Ln} {s : St} (h : Has A m s) (hne : m ≠ line) : Has (A.set line state d).2 m s := by
  unfold Arr.set
  split
  · exact h
  · rename_i hc
    have hl : 0 ≤ line := by omega
    cases ha : A.at line with
    | some k =>
      obtain ⟨t, ht, ht0, htl, _⟩ := Arr.at_some hok ha
      simp only [Option.some_or]
      refine Has.put (A := A.tick) h (fun u hu => .inr ?_)
      have : A.l[A.from line + k]? = some u := hu
      rw [ht] at this; cases this
      rw [htl]; exact fun e => hne e.symm
    | none =>
      simp only [Option.none_or]
      cases hf : A.free line with
      | none => exact h
      | some k =>
        obtain ⟨t, ht, ht0⟩ := Arr.free_some hok hl hf
        refine Has.put (A := A.tick) h (fun u hu => .inl ?_)
        have : A.l[A.from line + k]? = some u := hu
        rw [ht] at this; cases this
        exact ht0
theorem Has.drop {A : Arr} (hok : A.ok) {m line : Int} {s : St} (h : Has A m s) (hne : m ≠ line) : Has (A.drop line) m s := by
  unfold Arr.drop
  cases ha : A.at line with
  | none => exact h
  | some k =>
    obtain ⟨t, ht, ht0, htl, _⟩ := Arr.at_some hok ha
    refine Has.put h (fun u hu => .inr ?_)
    rw [ht] at hu; cases hu
    rw [htl]; exact fun e => hne e.symm
theorem Has.find {A : Arr} (hok : A.ok) (hw : A.wf) {m : Int} {s : St} (h : Has A m s) : A.find m = (s, true) ∧ (A.at m).isSome = true := by
  obtain ⟨i, hi, h0, rfl⟩ := h
  have ha := Arr.at_of hok hw hi h0
  obtain ⟨t, ht, ht0, htl, hst⟩ := Arr.at_some hok ha
  have := hw.once _ _ _ _ ht hi ht0 h0 (.inl htl)
  rw [this] at ht
  rw [ht] at hi; cases hi
  unfold Arr.find
  rw [ha]
  exact ⟨by show (A.slotAt _ _, true) = _; rw [hst], rfl⟩
/-- all slots' states are at most Mod -/
def Low (A : Arr) : Prop := ∀ s ∈ A.l, s.state ≤ 3
theorem Low.put {A : Arr} {line : Int} {k : Nat} {t : St} (h : Low A) (ht : t.state ≤ 3) : Low (A.put line k t) := by
  intro s hs
  rcases List.mem_or_eq_of_mem_set (show s ∈ A.l.set (A.from line + k) t from hs) with hs | rfl
  · exact h s hs
  · exact ht
theorem Low.set {A : Arr} {line state : Int} {d : Ln} (h : Low A) (hs : state ≤ 3) : Low (A.set line state d).2 := by
  unfold Arr.set
  split
  · exact h
  · split
    · exact h
    · exact Low.put (A := A.tick) h hs
theorem Low.drop {A : Arr} {line : Int} (h : Low A) : Low (A.drop line) := by
  unfold Arr.drop
  split
  · exact h
  · exact Low.put h (by decide)
theorem Arr.set_sets (A : Arr) (line state : Int) (d : Ln) : (A.set line state d).2.sets = A.sets ∧ (A.set line state d).2.ways = A.ways := by
  unfold Arr.set
  split
  · exact ⟨rfl, rfl⟩
  · split <;> exact ⟨rfl, rfl⟩
theorem Arr.drop_sets (A : Arr) (line : Int) : (A.drop line).sets = A.sets ∧ (A.drop line).ways = A.ways := by
  unfold Arr.drop
  split <;> exact ⟨rfl, rfl⟩
theorem Arr.touch_sets (A : Arr) (line : Int) : (A.touch line).sets = A.sets ∧ (A.touch line).ways = A.ways := by
  unfold Arr.touch
  split <;> exact ⟨rfl, rfl⟩
/-- no slot is empty, all are low: somebody may go, who stands in this set -/
theorem room_low {A : Arr} (hok : A.ok) (hw : A.wf) (hlow : Low A) {line : Int} (hl : 0 ≤ line) (hf : A.free line = none) :
    ∃ s, A.room line = (false, s.line) ∧ 0 ≤ s.line ∧ s.line % A.sets = line % A.sets ∧ Has A s.line s := by
  have hne : ∀ s ∈ A.part line, s.state ≠ 0 := by
    intro s hs
    obtain ⟨i, hi, h1, h2⟩ := Arr.part_mem hs
    exact Arr.free_none hf (i - A.from line) s (by omega) (by rw [show A.from line + (i - A.from line) = i by omega]; exact hi)
  have hpl := Arr.part_len hok hl
  have hrest : ∀ s ∈ A.part line, s.rest := by
    intro s hs
    obtain ⟨i, hi, h1, h2⟩ := Arr.part_mem hs
    exact ⟨(hw.place i s hi (hne s hs)).2.2.2.1, hlow s (List.mem_of_getElem? hi)⟩
  have hline : ∀ s ∈ A.part line, s.rest → 0 ≤ s.line := by
    intro s hs _
    obtain ⟨i, hi, h1, h2⟩ := Arr.part_mem hs
    exact (hw.place i s hi (hne s hs)).1
  obtain ⟨v', e, hh⟩ := roomScan_full (A.part line) (-1) 0 hne hline (.inl rfl)
  have h1 := hok.2.1
  rcases hh with ⟨_, _, h⟩ | ⟨u, h, _, _⟩
  · exfalso
    have hlt : 0 < (A.part line).length := by omega
    exact h _ (List.getElem_mem hlt) (hrest _ (List.getElem_mem hlt))
  · rcases h with ⟨_, _, h⟩ | ⟨s, hs, hr, rfl, rfl⟩
    · omega
    · obtain ⟨i, hi, h2, h3⟩ := Arr.part_mem hs
      have hp := hw.place i s hi (hne s hs)
      refine ⟨s, ?_, hp.1, ?_, i, hi, hne s hs, rfl⟩
      · unfold Arr.room
        rw [if_neg (by omega), e]
      · have a1 := hp.2.1
        have a2 := hp.2.2.1
        have b1 : 0 ≤ line % (A.sets : Int) := Int.emod_nonneg _ (by have := hok.1; omega)
        have b2 : 0 ≤ s.line % (A.sets : Int) := Int.emod_nonneg _ (by have := hok.1; omega)
        unfold Arr.from at a1 a2 h2 h3
        have key : (s.line % (A.sets : Int)).toNat = (line % (A.sets : Int)).toNat := by
          generalize (s.line % (A.sets : Int)).toNat = x at *
          generalize (line % (A.sets : Int)).toNat = y at *
          generalize A.ways = w at *
          rcases Nat.lt_trichotomy x y with h | h | h
          · have := Nat.mul_le_mul_right w (show x + 1 ≤ y from h)
            rw [Nat.add_mul] at this; omega
          · exact h
          · have := Nat.mul_le_mul_right w (show y + 1 ≤ x from h)
            rw [Nat.add_mul] at this; omega
        omega
end Go.Proofs.Ytncodeibkmekmab.Gen

namespace Go.Proofs.Ytncodeibkmekmab.Gen
open Go Go.Proofs.Ytncodeibkmekmab.Abs Go.RowKit
variable {g : G} {n : Nat}
theorem ref04Set_spec {sets line : Int} (hs : sets = 1 ∨ sets = 2 ∨ sets = 4 ∨ sets = 8) (hl : 0 ≤ line) {K : Cont} (hK : ∀ n', K (.int .i64 (line % sets)) g n') : AC bellowsref04_Set_id [.int .i64 sets, .int .i64 line] g n K := by
  refine ACalls.fold X0_mono ?_
  rw [← bellowsref04_Set_eq]
  have e : line.tmod sets = line % sets := Int.tmod_eq_emod_of_nonneg hl
  simp only [bellowsref04_Set, kBin_neq, kBin_lss, kBin_rem, kSplit_b, decide_eq_true_eq, decide_eq_false_iff_not, e]
  have fin : (line < 0 → aRet K (.int .i64 0) g n) ∧ (¬ line < 0 → sets ≠ 0 ∧ aRet K (.int .i64 (line % sets)) g n) := ⟨fun h => by omega, fun _ => ⟨by omega, aRet_of (Sub.refl _) (hK _)⟩⟩
  exact ⟨fun h1 => ⟨fun h2 => ⟨fun h4 => ⟨fun h8 => by omega, fun _ => fin⟩, fun _ => fin⟩, fun _ => fin⟩, fun _ => fin⟩

/-! the document's array: the same cells -/
def rowV (ls : Nat) (A : Arr) : Value := .slice (some ⟨ls, 0, none⟩) (A.sets * A.ways) (A.sets * A.ways)
theorem row_sl {A : Arr} {la ls : Nat} (hok : A.ok) (hh : ArrH g la ls A) : Sl encS 11 g (rowV ls A) A.l := by
  have := hh.row.sl (i := 0) (m := A.sets * A.ways) (c := A.sets * A.ways) encS_len (by rw [hok.2.2.2.1]; omega)
  rw [Nat.zero_mul, List.drop_zero, List.take_of_length_le (by rw [hok.2.2.2.1]; exact Nat.le_refl _)] at this
  exact this
theorem Arr.len64 {A : Arr} (hok : A.ok) : A.l.length ≤ 64 := by rw [hok.2.2.2.1]; exact Arr.small hok
theorem ldRow {A : Arr} {la ls : Nat} (hh : ArrH g la ls A) {K : Value → Prop} (k : K (rowV ls A)) : kLd g la (0 + 2) K := kLd_of hh.obj rfl k
theorem ldWays {A : Arr} {la ls : Nat} (hh : ArrH g la ls A) {K : Value → Prop} (k : K (.int .i64 A.ways)) : kLd g la (0 + 1) K := kLd_of hh.obj rfl k
theorem ldSets {A : Arr} {la ls : Nat} (hh : ArrH g la ls A) {K : Value → Prop} (k : K (.int .i64 A.sets)) : kLd g la (0 + 0) K := kLd_of hh.obj rfl k
theorem ldUsed {A : Arr} {la ls : Nat} (hh : ArrH g la ls A) {K : Value → Prop} (k : K (.int .i64 A.used)) : kLd g la (0 + 3) K := kLd_of hh.obj rfl k
theorem ArrH.keep {A : Arr} {la ls lq lt : Nat} {g' : G} (h : ArrH g lq lt A) (hs : Sub (hide g la ls) g') (h1 : lq ≠ la) (h2 : lq ≠ ls) (h3 : lt ≠ la) (h4 : lt ≠ ls) : ArrH g' lq lt A :=
  ⟨hs.live (hide_live h1 h2 h.obj), hs.live (hide_live h3 h4 h.row), h.ne⟩

def Arr.refAt (A : Arr) (line : Int) : Option Nat := A.l.findIdx? fun s => decide (s.state ≠ 0) && decide (s.line = line)
theorem refAt_eq {A : Arr} (hok : A.ok) (hw : A.wf) (line : Int) : A.refAt line = (A.at line).map (A.from line + ·) := by
  cases ha : A.at line with
  | none =>
    unfold Arr.refAt
    rw [Option.map_none, List.findIdx?_eq_none_iff]
    intro s hs
    obtain ⟨i, hi⟩ := List.getElem?_of_mem hs
    by_cases h0 : s.state = 0
    · simp [h0]
    · have := Arr.at_none hok hw ha i s hi h0
      simp [this]
  | some k =>
    obtain ⟨t, ht, ht0, htl, _⟩ := Arr.at_some hok ha
    unfold Arr.refAt
    rw [Option.map_some, List.findIdx?_eq_some_iff_getElem]
    obtain ⟨hlt, he⟩ := List.getElem?_eq_some_iff.1 ht
    refine ⟨hlt, ?_, ?_⟩
    · show (decide ((A.l[A.from line + k]).state ≠ 0) && decide ((A.l[A.from line + k]).line = line)) = true
      rw [he]; simp [ht0, htl]
    · intro j hj hp
      have hjl : j < A.l.length := by omega
      simp only [Bool.and_eq_true, decide_eq_true_eq] at hp
      have := hw.once j _ _ _ (List.getElem?_eq_getElem hjl) ht hp.1 ht0 (.inl (by rw [hp.2, htl]))
      omega
theorem refAt_spec {A : Arr} {la ls : Nat} {line : Int} (hok : A.ok) (hh : ArrH g la ls A) {K : Cont} (hK : ∀ n', K (idxV (A.refAt line)) g n') : AC bellowsref05_Array_At_id [ptr la 0, .int .i64 line] g n K := by
  refine ACalls.fold X0_mono ?_
  rw [← bellowsref05_Array_At_eq]
  simp only [bellowsref05_Array_At]
  have h64 := Arr.len64 hok
  have hsl := row_sl hok hh
  refine lfp_ind (fun m t g' n' => g' = g ∧ ∃ i : Nat, m = A.l.length - i ∧ i ≤ A.l.length ∧ t 0 = ptr la 0 ∧ t 1 = .int .i64 line ∧ t 5 = .int .i64 i ∧ (∀ s ∈ A.l.take i, (decide (s.state ≠ 0) && decide (s.line = line)) = false)) ?_
    (m := A.l.length) ⟨rfl, 0, by simp, by simp, rfl, rfl, rfl, by simp⟩
  rintro I m t g1 n1 hI ⟨rfl, i, hm, hi, t0, t1, t5, hp⟩
  simp only [bellowsref05_Array_At_l1, t0, t1, t5, kNil_p, kPtr_p]
  refine ldRow hh (hsl.len ?_)
  simp only [kBin_lss, kSplit_b, decide_eq_true_eq, decide_eq_false_iff_not]
  refine ⟨fun hlt => ?_, fun hge => ?_⟩
  · have hlt : i < A.l.length := by omega
    have he : A.l[i]? = some A.l[i] := List.getElem?_eq_getElem hlt
    generalize hx : A.l[i] = s at he
    have next : ∀ (t : Env) (n2 : Nat), t 0 = ptr la 0 → t 1 = .int .i64 line → t 5 = .int .i64 ((i + 1 : Nat) : Int) → (decide (s.state ≠ 0) && decide (s.line = line)) = false → I t g1 n2 := by
      intro t n2 t0 t1 t5 hs
      refine hI (A.l.length - (i + 1)) _ _ _ (by omega) ⟨rfl, i + 1, rfl, by omega, t0, t1, t5, ?_⟩
      intro y hy
      rw [take_add he] at hy
      rcases List.mem_append.1 hy with hy | hy
      · exact hp y hy
      · simp at hy; subst hy; exact hs
    refine ldRow hh (hsl.idx encS_len he (fun l o hat => ?_))
    simp only [kPtr_p]
    refine hat.ld (encS_0 s) ?_
    simp only [kBin_neq, kSplit_b, decide_eq_true_eq, decide_eq_false_iff_not, kBin_add]
    rw [wrapNat (by omega)]
    refine ⟨fun h0 => ?_, fun h0 => next _ _ t0 t1 rfl (by rw [decide_eq_false h0]; rfl)⟩
    refine ldRow hh (hsl.idx encS_len he (fun l o hat => ?_))
    simp only [kPtr_p]
    refine hat.ld (encS_1 s) ?_
    simp only [kBin_eql, kSplit_b, decide_eq_true_eq, decide_eq_false_iff_not]
    refine ⟨fun hl => aRet_of (Sub.refl _) ?_, fun hl => next _ _ t0 t1 rfl (by rw [decide_eq_false hl, Bool.and_false])⟩
    have : A.refAt line = some i := by
      unfold Arr.refAt
      rw [List.findIdx?_eq_some_iff_getElem]
      refine ⟨hlt, ?_, fun j hj hpj => ?_⟩
      · rw [hx]; simp [h0, hl]
      · have := hp A.l[j] (List.mem_of_getElem? (i := j) (by rw [List.getElem?_take, if_pos hj, List.getElem?_eq_getElem]))
        rw [this] at hpj; cases hpj
    have k := hK n1
    rw [this] at k
    exact k
  · have : i = A.l.length := by omega
    subst this
    rw [List.take_length] at hp
    have : A.refAt line = none := by unfold Arr.refAt; rw [List.findIdx?_eq_none_iff]; exact hp
    have k := hK n1
    rw [this] at k
    exact aRet_of (Sub.refl _) k

theorem refFirst_spec {A : Arr} {la ls : Nat} {line : Int} (hok : A.ok) (hh : ArrH g la ls A) (hl : 0 ≤ line) {K : Cont} (hK : ∀ n', K (.int .i64 (A.from line : Nat)) g n') : AC bellowsref05_Array_first_id [ptr la 0, .int .i64 line] g n K := by
  refine ACalls.fold X0_mono ?_
  rw [← bellowsref05_Array_first_eq]
  simp only [bellowsref05_Array_first, kNil_p, kPtr_p]
  refine ldSets hh (ldWays hh ?_)
  refine ref04Set_spec (by have := hok.1; omega) hl (fun n1 => ?_)
  refine ⟨rfl, ?_⟩
  have hf := Arr.from_le hok hl
  have hsm := Arr.small hok
  have hnn : 0 ≤ line % (A.sets : Int) := Int.emod_nonneg _ (by have := hok.1; omega)
  have e1 : (line % (A.sets : Int)) * (A.ways : Int) = (A.from line : Int) := by unfold Arr.from; rw [Int.natCast_mul, Int.toNat_of_nonneg hnn]
  simp only [kBin_mul]
  rw [e1, wrap64_of (by omega) (by omega)]
  exact aRet_of (Sub.refl _) (hK _)

theorem refFree_spec {A : Arr} {la ls : Nat} {line : Int} (hok : A.ok) (hh : ArrH g la ls A) (hl : 0 ≤ line) {K : Cont} (hK : ∀ n', K (idxV ((A.free line).map (A.from line + ·))) g n') : AC bellowsref05_Array_Free_id [ptr la 0, .int .i64 line] g n K := by
  refine ACalls.fold X0_mono ?_
  rw [← bellowsref05_Array_Free_eq]
  simp only [bellowsref05_Array_Free]
  refine refFirst_spec hok hh hl (fun n1 => ?_)
  have h64 := Arr.len64 hok
  have hsl := row_sl hok hh
  have hf := Arr.from_le hok hl
  have hlen := hok.2.2.2.1
  have hpl := Arr.part_len hok hl
  refine lfp_ind (fun m t g' n' => g' = g ∧ ∃ i : Nat, m = A.ways - i ∧ i ≤ A.ways ∧ t 0 = ptr la 0 ∧ t 1 = .int .i64 line ∧ t 5 = .int .i64 ((A.from line + i : Nat) : Int) ∧ (∀ s ∈ (A.part line).take i, decide (s.state = 0) = false)) ?_
    (m := A.ways) ⟨rfl, 0, by simp, by simp, rfl, rfl, rfl, by simp⟩
  rintro I m t g1 n2 hI ⟨rfl, i, hm, hi, t0, t1, t5, hp⟩
  simp only [bellowsref05_Array_Free_l1, t0, t1, t5, kNil_p, kPtr_p]
  refine ldWays hh (refFirst_spec hok hh hl (fun n3 => ⟨rfl, ?_⟩))
  simp only [kBin_add]
  rw [wrap64_of (a := (A.from line : Int) + (A.ways : Int)) (by omega) (by omega)]
  simp only [kBin_lss, kSplit_b, decide_eq_true_eq, decide_eq_false_iff_not]
  refine ⟨fun hlt => ?_, fun hge => ?_⟩
  · have hlt : i < A.ways := by omega
    have he : A.l[A.from line + i]? = some (A.slotAt line i) := Arr.slotAt_get hok hl hlt
    have hpe : (A.part line)[i]? = some (A.slotAt line i) := Arr.part_get hok hl hlt
    generalize A.slotAt line i = s at he hpe
    refine ldRow hh (hsl.idx encS_len he (fun l o hat => ?_))
    simp only [kPtr_p]
    refine hat.ld (encS_0 s) ?_
    simp only [kBin_eql, kSplit_b, decide_eq_true_eq, decide_eq_false_iff_not, kBin_add]
    refine ⟨fun h0 => aRet_of (Sub.refl _) ?_, fun h0 => ?_⟩
    · have : A.free line = some i := by
        unfold Arr.free
        rw [List.findIdx?_eq_some_iff_getElem]
        have hilt : i < (A.part line).length := by omega
        have hx : (A.part line)[i] = s := by rw [List.getElem?_eq_getElem hilt] at hpe; exact Option.some.inj hpe
        refine ⟨hilt, by rw [hx]; simpa using h0, fun j hj hpj => ?_⟩
        have := hp (A.part line)[j] (List.mem_of_getElem? (i := j) (by rw [List.getElem?_take, if_pos hj, List.getElem?_eq_getElem]))
        rw [this] at hpj; cases hpj
      have k := hK n3
      rw [this] at k
      exact k
    · rw [wrapNat (by omega)]
      refine hI (A.ways - (i + 1)) _ _ _ (by omega) ⟨rfl, i + 1, rfl, by omega, t0, t1, rfl, ?_⟩
      intro y hy
      rw [take_add hpe] at hy
      rcases List.mem_append.1 hy with hy | hy
      · exact hp y hy
      · simp at hy; subst hy; simpa using h0
  · have : i = A.ways := by omega
    subst this
    rw [List.take_of_length_le (by omega)] at hp
    have : A.free line = none := by unfold Arr.free; rw [List.findIdx?_eq_none_iff]; exact hp
    have k := hK n3
    rw [this] at k
    exact aRet_of (Sub.refl _) k

/-! the victim -/
instance (s : St) : Decidable s.rest := inferInstanceAs (Decidable (_ ∧ _))
def ltB (s : St) : Option St → Prop
  | none => True
  | some t => s.used < t.used
instance (s : St) (b : Option St) : Decidable (ltB s b) := match b with
  | none => isTrue trivial
  | some t => inferInstanceAs (Decidable (s.used < t.used))
def vicScan : List St → Option St → Option St
  | [], b => b
  | s :: l, b => if s.rest ∧ ltB s b then vicScan l (some s) else vicScan l b
def lineOf : Option St → Int
  | none => -1
  | some s => s.line
theorem vic_room : ∀ (l : List St) (b : Option St) (v last : Int), (∀ s ∈ l, s.state ≠ 0) → (∀ s ∈ l, s.rest → 0 ≤ s.line) → (match b with | none => v = -1 | some t => v = t.line ∧ last = t.used ∧ 0 ≤ v) → roomScan l v last = (false, lineOf (vicScan l b))
  | [], b, v, last, _, _, hb => by
    cases b with
    | none => simp only at hb; subst hb; rfl
    | some t => simp only at hb; rw [hb.1]; rfl
  | s :: l, b, v, last, h0, hl, hb => by
    have h0' : ∀ s ∈ l, s.state ≠ 0 := fun t ht => h0 t (by simp [ht])
    have hl' : ∀ s ∈ l, s.rest → 0 ≤ s.line := fun t ht => hl t (by simp [ht])
    unfold roomScan vicScan
    rw [if_neg (h0 s (by simp))]
    have e : (1 ≤ s.state ∧ s.state ≤ 3 ∧ (v < 0 ∨ s.used < last)) ↔ (s.rest ∧ ltB s b) := by
      unfold St.rest ltB
      cases b with
      | none => simp only at hb; subst hb; simp
      | some t => simp only at hb; obtain ⟨_, rfl, h⟩ := hb
                  simp only [and_assoc]
                  constructor
                  · rintro ⟨a, b, c | c⟩
                    · omega
                    · exact ⟨a, b, c⟩
                  · rintro ⟨a, b, c⟩; exact ⟨a, b, .inr c⟩
    by_cases hc : 1 ≤ s.state ∧ s.state ≤ 3 ∧ (v < 0 ∨ s.used < last)
    · rw [if_pos hc, if_pos (e.1 hc)]
      exact vic_room l (some s) s.line s.used h0' hl' ⟨rfl, rfl, hl s (by simp) ⟨hc.1, hc.2.1⟩⟩
    · rw [if_neg hc, if_neg (fun h => hc (e.2 h))]
      exact vic_room l b v last h0' hl' hb
theorem room_ref {A : Arr} (hw : A.wf) {line : Int} (hl : 0 ≤ line) : A.room line = if (A.free line).isSome then (true, -1) else (false, lineOf (vicScan (A.part line) none)) := by
  unfold Arr.room
  rw [if_neg (by omega)]
  cases hf : A.free line with
  | some k =>
    obtain ⟨h1, h2, _⟩ := List.findIdx?_eq_some_iff_getElem.1 hf
    exact roomScan_free _ _ _ ⟨_, List.getElem_mem h1, by simpa using h2⟩
  | none =>
    have h0 : ∀ s ∈ A.part line, s.state ≠ 0 := by
      intro s hs
      obtain ⟨i, hi, h1, h2⟩ := Arr.part_mem hs
      exact Arr.free_none hf (i - A.from line) s (by omega) (by rw [show A.from line + (i - A.from line) = i by omega]; exact hi)
    refine vic_room _ none _ _ h0 (fun s hs _ => ?_) rfl
    obtain ⟨i, hi, _, _⟩ := Arr.part_mem hs
    exact (hw.place i s hi (h0 s hs)).1
theorem rest_spec {x : Int} {K : Cont} (hK : ∀ n', K (.bool (decide (1 ≤ x ∧ x ≤ 3))) g n') : AC bellowsref05_rest_id [.int .i64 x] g n K := by
  refine ACalls.fold X0_mono ?_
  rw [← bellowsref05_rest_eq]
  simp only [bellowsref05_rest, kBin_geq, kBin_leq, kSplit_b, decide_eq_true_eq, decide_eq_false_iff_not]
  refine ⟨fun h => aRet_of (Sub.refl _) ?_, fun h => aRet_of (Sub.refl _) ?_⟩
  · have k := hK n
    rw [show decide (1 ≤ x ∧ x ≤ 3) = decide (x ≤ 3) from by rw [decide_eq_decide]; omega] at k
    exact k
  · have k := hK n
    rw [decide_eq_false (by omega)] at k
    exact k
theorem refVictim_spec {A : Arr} {la ls : Nat} {line : Int} (hok : A.ok) (hh : ArrH g la ls A) (hl : 0 ≤ line) {K : Cont} (hK : ∀ n', K (.int .i64 (lineOf (vicScan (A.part line) none))) g n') : AC bellowsref05_Array_Victim_id [ptr la 0, .int .i64 line] g n K := by
  refine ACalls.fold X0_mono ?_
  rw [← bellowsref05_Array_Victim_eq]
  simp only [bellowsref05_Array_Victim]
  refine refFirst_spec hok hh hl (fun n1 => ?_)
  have h64 := Arr.len64 hok
  have hsl := row_sl hok hh
  have hf := Arr.from_le hok hl
  have hlen := hok.2.2.2.1
  have hpl := Arr.part_len hok hl
  refine lfp_ind (fun m t g' n' => g' = g ∧ ∃ (i : Nat) (b : Option St) (j : Int), m = A.ways - i ∧ i ≤ A.ways ∧ t 0 = ptr la 0 ∧ t 1 = .int .i64 line ∧ t 6 = .int .i64 ((A.from line + i : Nat) : Int) ∧ t 5 = .int .i64 j ∧
      (match b with | none => j = -1 | some s => ∃ q : Nat, j = q ∧ A.l[q]? = some s) ∧ vicScan ((A.part line).drop i) b = vicScan (A.part line) none) ?_
    (m := A.ways) ⟨rfl, 0, none, -1, by simp, by simp, rfl, rfl, rfl, rfl, rfl, by simp⟩
  rintro I m t g1 n2 hI ⟨rfl, i, b, j, hm, hi, t0, t1, t6, t5, hb, hsc⟩
  simp only [bellowsref05_Array_Victim_l1, t0, t1, t5, t6, kNil_p, kPtr_p]
  refine ldWays hh (refFirst_spec hok hh hl (fun n3 => ⟨rfl, ?_⟩))
  simp only [kBin_add]
  rw [wrap64_of (a := (A.from line : Int) + (A.ways : Int)) (by omega) (by omega)]
  simp only [kBin_lss, kSplit_b, decide_eq_true_eq, decide_eq_false_iff_not]
  refine ⟨fun hlt => ?_, fun hge => ?_⟩
  · have hlt : i < A.ways := by omega
    have he : A.l[A.from line + i]? = some (A.slotAt line i) := Arr.slotAt_get hok hl hlt
    have hpe : (A.part line)[i]? = some (A.slotAt line i) := Arr.part_get hok hl hlt
    generalize A.slotAt line i = s at he hpe
    rw [drop_get hpe] at hsc
    have j2 : ∀ (t : Env) (n4 : Nat) (b' : Option St) (j' : Int), t 0 = ptr la 0 → t 1 = .int .i64 line → t 6 = .int .i64 ((A.from line + i : Nat) : Int) → t 5 = .int .i64 j' →
        (match b' with | none => j' = -1 | some s => ∃ q : Nat, j' = q ∧ A.l[q]? = some s) → vicScan ((A.part line).drop (i + 1)) b' = vicScan (A.part line) none → bellowsref05_Array_Victim_j2 AC K I t g1 n4 := by
      intro t n4 b' j' t0 t1 t6 t5 hb' hsc'
      simp only [bellowsref05_Array_Victim_j2, t6, kBin_add]
      rw [wrapNat (by omega)]
      exact hI (A.ways - (i + 1)) _ _ _ (by omega) ⟨rfl, i + 1, b', j', rfl, by omega, t0, t1, rfl, t5, hb', hsc'⟩
    refine ldRow hh (hsl.idx encS_len he (fun l o hat => ?_))
    simp only [kPtr_p]
    refine hat.ld (encS_0 s) ?_
    refine rest_spec (fun n4 => ?_)
    simp only [vicScan] at hsc
    simp only [kSplit_b, decide_eq_true_eq, decide_eq_false_iff_not]
    refine ⟨fun hr => ?_, fun hr => ?_⟩
    · cases b with
      | none =>
        simp only at hb
        subst hb
        rw [if_pos ⟨hr, trivial⟩] at hsc
        refine ⟨fun _ => j2 _ _ (some s) _ t0 t1 t6 rfl ⟨_, rfl, he⟩ hsc, fun h => absurd h (by decide)⟩
      | some u =>
        obtain ⟨q, rfl, hq⟩ := hb
        refine ⟨fun h => absurd h (by omega), fun _ => ?_⟩
        refine ldRow hh (hsl.idx encS_len he (fun l o hat => ?_))
        simp only [kPtr_p]
        refine hat.ld (encS_10 s) ?_
        refine ldRow hh (hsl.idx encS_len hq (fun l o hat => ?_))
        simp only [kPtr_p]
        refine hat.ld (encS_10 u) ?_
        simp only [kBin_lss, kSplit_b, decide_eq_true_eq, decide_eq_false_iff_not]
        refine ⟨fun hu => ?_, fun hu => ?_⟩
        · rw [if_pos ⟨hr, hu⟩] at hsc
          exact j2 _ _ (some s) _ t0 t1 t6 rfl ⟨_, rfl, he⟩ hsc
        · rw [if_neg (fun h => hu h.2)] at hsc
          exact j2 _ _ (some u) _ t0 t1 t6 t5 ⟨_, rfl, hq⟩ hsc
    · rw [if_neg (fun h => hr h.1)] at hsc
      exact j2 _ _ b _ t0 t1 t6 t5 hb hsc
  · have : i = A.ways := by omega
    subst this
    rw [List.drop_of_length_le (by omega)] at hsc
    simp only [vicScan] at hsc
    rw [← hsc] at hK
    simp only [bellowsref05_Array_Victim_j3]
    show kBin .int .lss (t 5) _ _
    rw [t5]
    simp only [kBin_lss]
    cases b with
    | none =>
      simp only at hb
      subst hb
      exact kSplit_t rfl (aRet_of (Sub.refl _) (hK _))
    | some u =>
      obtain ⟨q, rfl, hq⟩ := hb
      refine kSplit_f (by simp) ?_
      show kNil (t 0) _
      rw [t0]
      simp only [kNil_p, kPtr_p]
      refine ldRow hh ?_
      show kIndexAddr _ (t 5) _ _
      rw [t5]
      refine hsl.idx encS_len hq (fun l o hat => ?_)
      simp only [kPtr_p]
      refine hat.ld (encS_1 u) ?_
      exact aRet_of (Sub.refl _) (hK _)
end Go.Proofs.Ytncodeibkmekmab.Gen

namespace Go.Proofs.Ytncodeibkmekmab.Gen
open Go Go.Proofs.Ytncodeibkmekmab.Abs Go.RowKit
variable {g : G} {n : Nat}
theorem ArrH.stAt {A : Arr} {la ls : Nat} {k : Nat} {s : St} {K : G → Prop} (hh : ArrH g la ls A) (hk : k < A.l.length)
    (kk : ∀ g', Sub (hide g la ls) g' → ArrH g' la ls { A with l := A.l.set k s } → K g') : kStN g ls (0 + k * 11) (encS s) K := by
  rw [Nat.zero_add]
  refine hh.row.stN encS_len encS_cell rfl hk (fun hb => kk _ ?_ ⟨?_, hb, hh.ne⟩)
  · exact (hide_sub g la ls).upd_fresh _ (hide_ls _ _ _)
  · rw [upd_ne _ _ hh.ne]; exact hh.obj
theorem stUsed {A : Arr} {la ls : Nat} {u : Int} {K : G → Prop} (hh : ArrH g la ls A) (k : K (upd g la (some (.cells (ArrC { A with used := u } ls) .exact)))) : kSt g la (0 + 3) (.int .i64 u) K :=
  kSt_of hh.obj rfl (by simp [ArrC]) rfl k
theorem ArrH.withUsed {A : Arr} {la ls : Nat} {u : Int} (hh : ArrH g la ls A) : ArrH (upd g la (some (.cells (ArrC { A with used := u } ls) .exact))) la ls { A with used := u } :=
  ⟨upd_same _ _ _, by show upd g la _ ls = _; rw [upd_ne _ _ (fun e => hh.ne e.symm)]; exact hh.row, hh.ne⟩

theorem refSet_spec {A : Arr} {la ls : Nat} {line state : Int} {d : Ln} (hok : A.ok) (hw : A.wf) (hu : A.used < 100000) (hh : ArrH g la ls A) {K : Cont}
    (hK : ∀ g' n', Sub (hide g la ls) g' → ArrH g' la ls (A.set line state d).2 → K (.int .i64 (A.set line state d).1) g' n') :
    AC bellowsref05_Array_Set_id [ptr la 0, .int .i64 line, .int .i64 state, .agg (encL d).toArray] g n K := by
  refine ACalls.fold X0_mono ?_
  rw [← bellowsref05_Array_Set_eq]
  simp only [bellowsref05_Array_Set, kAgg_a]
  intro hn
  have hs := (Sub.refl g).new hn (some (.cells (encL d) .exact))
  have hl7 := upd_same g n (some (.cells (encL d) .exact))
  have hla := ne_of_live hh.obj hn
  generalize upd g n (some (.cells (encL d) .exact)) = g1 at *
  have hh1 := hh.mono hs
  have err : ∀ m, (line < 0 ∨ state < 1 ∨ 9 < state) → aRet K (.int .i64 1) g1 m := by
    intro m h
    have e : A.set line state d = (1, A) := by unfold Arr.set; rw [if_pos h]
    rw [e] at hK
    exact aRet_of (Sub.refl _) (hK _ _ ((hide_sub g la ls).trans hs) hh1)
  simp only [kBin_lss, kBin_gtr, kSplit_b, decide_eq_true_eq, decide_eq_false_iff_not]
  refine ⟨fun h => err _ (.inl h), fun h1 => ⟨fun h => err _ (.inr (.inl h)), fun h2 => ⟨fun h => err _ (.inr (.inr h)), fun h3 => ?_⟩⟩⟩
  have hl : 0 ≤ line := by omega
  have hne : ¬ (line < 0 ∨ state < 1 ∨ 9 < state) := by omega
  have h64 := Arr.len64 hok
  have j1 : ∀ (t : Env) (m : Nat), t 0 = ptr la 0 → t 1 = .int .i64 line → t 2 = .int .i64 state → t 7 = ptr n 0 → t 9 = idxV (((A.at line).or (A.free line)).map (A.from line + ·)) → bellowsref05_Array_Set_j1 AC K t g1 m := by
    intro t m t0 t1 t2 t7 t9
    simp only [bellowsref05_Array_Set_j1, t0, t1, t2, t7, t9]
    cases ho : (A.at line).or (A.free line) with
    | none =>
      have e : A.set line state d = (13, A) := by unfold Arr.set; rw [if_neg hne, ho]
      rw [e] at hK
      simp only [Option.map_none, idxV, kBin_lss]
      exact kSplit_t rfl (aRet_of (Sub.refl _) (hK _ _ ((hide_sub g la ls).trans hs) hh1))
    | some k =>
      have e : A.set line state d = (0, A.tick.put line k ⟨state, line, d, A.used + 1⟩) := by unfold Arr.set; rw [if_neg hne, ho]
      rw [e] at hK
      have hk : k < A.ways := by
        cases ha : A.at line with
        | none => rw [ha] at ho; exact Arr.free_lt hok hl (by simpa using ho)
        | some k' => rw [ha] at ho; simp at ho; subst ho; exact (Arr.at_lt hok ha).2
      have hlen : A.from line + k < A.l.length := by
        have := Arr.from_le hok hl
        rw [hok.2.2.2.1]; omega
      simp only [Option.map_some, idxV, kBin_lss]
      refine kSplit_f (by rw [decide_eq_false_iff_not]; omega) ?_
      have hu0 := hok.2.2.2.2.1
      simp only [kNil_p, kPtr_p]
      refine ldUsed hh1 ?_
      simp only [kBin_add]
      rw [wrap64_of (by omega) (by omega)]
      refine stUsed hh1 ?_
      have hh2 := hh1.withUsed (u := A.used + 1)
      refine ldRow hh2 ?_
      refine ldL (by rw [upd_ne _ _ hla]; exact hl7) ?_
      refine ldUsed hh2 (kFill_slot ?_)
      refine kIndexAddr_s (by omega) (by rw [show (A.sets * A.ways : Nat) = A.l.length from hok.2.2.2.1.symm]; omega) ?_
      simp only [kPtr_p, kAgg_a, Int.toNat_natCast]
      refine ⟨encS_len _, ArrH.stAt hh2 hlen (fun g' hs' hh' => aRet_of (Sub.refl _) (hK _ _ ?_ hh'))⟩
      rw [hide_upd] at hs'
      exact (hide_mono hs).trans hs'
  refine refAt_spec hok hh1 (fun n2 => ?_)
  rw [refAt_eq hok hw]
  cases ha : A.at line with
  | none =>
    simp only [Option.map_none, idxV, kBin_lss]
    refine kSplit_t rfl ?_
    refine refFree_spec hok hh1 hl (fun n3 => ?_)
    exact j1 _ _ rfl rfl rfl rfl (by rw [ha]; rfl)
  | some k =>
    simp only [Option.map_some, idxV, kBin_lss]
    refine kSplit_f (by rw [decide_eq_false_iff_not]; omega) ?_
    exact j1 _ _ rfl rfl rfl rfl (by rw [ha]; rfl)

theorem refTouch_spec {A : Arr} {la ls : Nat} {line : Int} (hok : A.ok) (hw : A.wf) (hu : A.used < 100000) (hh : ArrH g la ls A) {K : Cont}
    (hK : ∀ g' n', Sub (hide g la ls) g' → ArrH g' la ls (A.touch line) → K (.tuple #[]) g' n') : AC bellowsref05_Array_Touch_id [ptr la 0, .int .i64 line] g n K := by
  refine ACalls.fold X0_mono ?_
  rw [← bellowsref05_Array_Touch_eq]
  simp only [bellowsref05_Array_Touch]
  refine refAt_spec hok hh (fun n1 => ?_)
  rw [refAt_eq hok hw]
  cases ha : A.at line with
  | none =>
    have e : A.touch line = A := by unfold Arr.touch; rw [ha]
    rw [e] at hK
    simp only [Option.map_none, idxV, kBin_geq]
    exact kSplit_f rfl (aRet_of (Sub.refl _) (hK _ _ (hide_sub g la ls) hh))
  | some k =>
    have e : A.touch line = A.tick.put line k { A.slotAt line k with used := A.used + 1 } := by unfold Arr.touch; rw [ha]
    rw [e] at hK
    obtain ⟨hl, hk⟩ := Arr.at_lt hok ha
    have h64 := Arr.len64 hok
    have hlen : A.from line + k < A.l.length := by
      have := Arr.from_le hok hl
      rw [hok.2.2.2.1]; omega
    have hu0 := hok.2.2.2.2.1
    simp only [Option.map_some, idxV, kBin_geq]
    refine kSplit_t (by rw [decide_eq_true_eq]; omega) ?_
    simp only [kNil_p, kPtr_p]
    refine ldUsed hh ?_
    simp only [kBin_add]
    rw [wrap64_of (by omega) (by omega)]
    refine stUsed hh ?_
    have hh2 := hh.withUsed (u := A.used + 1)
    refine ldRow hh2 (ldUsed hh2 ?_)
    refine kIndexAddr_s (by omega) (by rw [show (A.sets * A.ways : Nat) = A.l.length from hok.2.2.2.1.symm]; omega) ?_
    simp only [kPtr_p, Int.toNat_natCast, Nat.zero_add]
    have hfl : ((A.l.map encS).flatten).length = A.l.length * 11 := flat_len encS 11 encS_len _
    refine kSt_of hh2.row rfl ?_ rfl ?_
    · show _ < ((A.l.map encS).flatten).length
      rw [hfl]; omega
    · have hx : A.l[A.from line + k]? = some (A.slotAt line k) := Arr.slotAt_get hok hl hk
      have hy : encS { A.slotAt line k with used := A.used + 1 } = (encS (A.slotAt line k)).set 10 (.int .i64 (A.used + 1)) := by
        unfold encS
        rw [List.set_append, if_neg (by simp [encL_len])]
        simp [encL_len]
      have := flat_set1 (z := 11) encS_len hx (by decide) hy
      show aRet K _ (upd _ ls (some (.cells (((A.l.map encS).flatten).set ((A.from line + k) * 11 + 10) (.int .i64 (A.used + 1))) .exact))) n1
      rw [this]
      refine aRet_of (Sub.refl _) (hK _ _ ?_ ⟨?_, upd_same _ _ _, hh.ne⟩)
      · have := (hide_sub (upd g la (some (.cells (ArrC { A with used := A.used + 1 } ls) .exact))) la ls).upd_fresh (some (.cells ((A.l.set (A.from line + k) { A.slotAt line k with used := A.used + 1 }).map encS).flatten .exact)) (hide_ls _ _ _)
        rw [hide_upd] at this
        exact this
      · rw [upd_ne _ _ hh.ne]; exact hh2.obj

theorem refDrop_spec {A : Arr} {la ls : Nat} {line : Int} (hok : A.ok) (hw : A.wf) (hh : ArrH g la ls A) {K : Cont}
    (hK : ∀ g' n', Sub (hide g la ls) g' → ArrH g' la ls (A.drop line) → K (.bool (A.at line).isSome) g' n') : AC bellowsref05_Array_Drop_id [ptr la 0, .int .i64 line] g n K := by
  refine ACalls.fold X0_mono ?_
  rw [← bellowsref05_Array_Drop_eq]
  simp only [bellowsref05_Array_Drop]
  refine refAt_spec hok hh (fun n1 => ?_)
  rw [refAt_eq hok hw]
  cases ha : A.at line with
  | none =>
    have e : A.drop line = A := by unfold Arr.drop; rw [ha]
    rw [e, ha] at hK
    simp only [Option.map_none, idxV, kBin_lss]
    exact kSplit_t rfl (aRet_of (Sub.refl _) (hK _ _ (hide_sub g la ls) hh))
  | some k =>
    have e : A.drop line = A.put line k zeroS := by unfold Arr.drop; rw [ha]
    rw [e, ha] at hK
    obtain ⟨hl, hk⟩ := Arr.at_lt hok ha
    have h64 := Arr.len64 hok
    have hlen : A.from line + k < A.l.length := by
      have := Arr.from_le hok hl
      rw [hok.2.2.2.1]; omega
    simp only [Option.map_some, idxV, kBin_lss]
    refine kSplit_f (by rw [decide_eq_false_iff_not]; omega) ?_
    simp only [kNil_p, kPtr_p]
    refine ldRow hh ?_
    simp only [kFill_nil]
    refine kIndexAddr_s (by omega) (by rw [show (A.sets * A.ways : Nat) = A.l.length from hok.2.2.2.1.symm]; omega) ?_
    simp only [kPtr_p, kAgg_a, Int.toNat_natCast]
    exact ⟨rfl, ArrH.stAt (s := zeroS) hh hlen (fun g' hs' hh' => aRet_of (Sub.refl _) (hK _ _ hs' hh'))⟩

theorem kFill_S {s : St} {K : List Value → Prop} (k : K (encS s)) : kFill (reps 1 (encS zeroS)) [(0, some 11, .agg (encS s).toArray)] K := by
  refine ⟨encS_len s, by rw [show (reps 1 (encS zeroS)).length = 11 from rfl]; decide, ?_⟩
  have : splice (reps 1 (encS zeroS)) 0 (encS s) = encS s := splice_all (by rw [encS_len]; rfl)
  rw [this]; exact k
theorem refSlots_spec {A : Arr} {la ls : Nat} (hok : A.ok) (hh : ArrH g la ls A) {K : Cont}
    (hK : ∀ v' g' n', Sub g g' → Sl encS 11 g' v' A.slots → K v' g' n') : AC bellowsref05_Array_Slots_id [ptr la 0] g n K := by
  refine ACalls.fold X0_mono ?_
  rw [← bellowsref05_Array_Slots_eq]
  simp only [bellowsref05_Array_Slots]
  have h64 := Arr.len64 hok
  refine lfp_ind (fun m t g' n' => Sub g g' ∧ ∃ i : Nat, m = A.l.length - i ∧ i ≤ A.l.length ∧ t 0 = ptr la 0 ∧ t 4 = .int .i64 i ∧ OwnS encS 11 g g' (t 3) ((A.l.take i).filter fun s => !decide (s.state = 0))) ?_
    (m := A.l.length) ⟨Sub.refl _, 0, by simp, by simp, rfl, rfl, by show OwnS encS 11 g g (.slice none 0 0) ((A.l.take 0).filter _); rw [List.take_zero]; exact OwnS.nil⟩
  rintro I m t g1 n1 hI ⟨hs1, i, hm, hi, t0, t4, hown⟩
  have hh1 := hh.mono hs1
  have hsl := row_sl hok hh1
  simp only [bellowsref05_Array_Slots_l1, t0, t4, kNil_p, kPtr_p]
  refine ldRow hh1 (hsl.len ?_)
  simp only [kBin_lss, kSplit_b, decide_eq_true_eq, decide_eq_false_iff_not]
  refine ⟨fun hlt => ?_, fun hge => ?_⟩
  · have hlt : i < A.l.length := by omega
    have he : A.l[i]? = some A.l[i] := List.getElem?_eq_getElem hlt
    generalize A.l[i] = s at he
    have hfl : ((A.l.take i).filter fun s => !decide (s.state = 0)).length ≤ 64 := by
      have := List.length_filter_le (fun s : St => !decide (s.state = 0)) (A.l.take i)
      rw [List.length_take] at this; omega
    have j2 : ∀ (t : Env) (g2 : G) (n2 : Nat), Sub g g2 → t 0 = ptr la 0 → t 4 = .int .i64 i → OwnS encS 11 g g2 (t 3) ((A.l.take (i + 1)).filter fun s => !decide (s.state = 0)) → bellowsref05_Array_Slots_j2 AC K I t g2 n2 := by
      intro t g2 n2 hs2 t0 t4 hown
      simp only [bellowsref05_Array_Slots_j2, t4, kBin_add]
      rw [wrapNat (by omega)]
      exact hI (A.l.length - (i + 1)) _ _ _ (by omega) ⟨hs2, i + 1, rfl, by omega, t0, rfl, hown⟩
    refine ldRow hh1 (hsl.idx encS_len he (fun l o hat => ?_))
    simp only [kPtr_p]
    refine hat.ld (encS_0 s) ?_
    simp only [kBin_neq, kSplit_b, decide_eq_true_eq, decide_eq_false_iff_not]
    refine ⟨fun h0 => ?_, fun h0 => j2 _ _ _ hs1 t0 t4 ?_⟩
    · refine ldRow hh1 (hsl.idx encS_len he (fun l o hat => ?_))
      simp only [kPtr_p]
      refine hat.ldN (encS_len s).symm (kFill_S ?_)
      intro hn
      have hs2 := (Sub.refl g1).new hn (some (.cells (encS s) .exact))
      refine (hown.mono hs2).append (hs1.trans hs2) (Sl.one (x := s) (encS_len _) (upd_same _ _ _)) encS_cell (by decide) (by rw [List.length_singleton]; omega) (by rw [List.length_singleton]; omega) (fun v' g' n' hs' ho' _ _ => ?_)
      refine j2 _ _ _ hs' t0 t4 ?_
      rw [take_add he, List.filter_append]
      have : List.filter (fun s : St => !decide (s.state = 0)) [s] = [s] := by simp [h0]
      rw [this]; exact ho'
    · rw [take_add he, List.filter_append]
      have : List.filter (fun s : St => !decide (s.state = 0)) [s] = [] := by
        have : s.state = 0 := by omega
        simp [this]
      rw [this, List.append_nil]; exact hown
  · have : i = A.l.length := by omega
    subst this
    rw [List.take_length] at hown
    exact aRet_of (Sub.refl _) (hK _ _ _ hs1 hown.sl)

theorem refNew_spec {s w : Int} {K : Cont} (hbad : ¬ goodA s w → ∀ n', K (.tuple #[.pointer none, .int .i64 1]) g n')
    (hK : goodA s w → ∀ la ls g' n', Sub g g' → g la = none → g ls = none → ArrH g' la ls (arr0 s.toNat w.toNat) → K (.tuple #[ptr la 0, .int .i64 0]) g' n') : AC bellowsref05_New_id [.int .i64 s, .int .i64 w] g n K := by
  refine ACalls.fold X0_mono ?_
  rw [← bellowsref05_New_eq]
  show array_New AC _ _ g n K
  exact New_body hbad hK

theorem neqL (a b : Ln) (K : Value → Prop) (h : K (.bool (!decide (a = b)))) : kBin (.agg [.i, .i, .i, .i, .i, .i, .i, .i]) .neq (.agg (encL a).toArray) (.agg (encL b).toArray) K := by
  have := eqL a b (fun v => match v with | .bool r => K (.bool (!r)) | _ => False) h
  revert this
  show (match leavesEq _ _ _ with | some r => kCmp .eql r _ | none => False) → (match leavesEq _ _ _ with | some r => kCmp .neq r K | none => False)
  generalize leavesEq [.i, .i, .i, .i, .i, .i, .i, .i] (encL a).toArray.toList (encL b).toArray.toList = o
  intro h
  cases o with
  | none => exact h.elim
  | some r => exact h
theorem SameS_spec {v1 v2 : Value} {xs : List St} (h1 : Sl encS 11 g v1 xs) (h2 : Sl encS 11 g v2 xs) (hlen : xs.length ≤ 64) {K : Cont} (hK : ∀ n', K (.bool true) g n') : AC bellowslaw05_Same_id [v1, v2] g n K := by
  refine ACalls.fold X0_mono ?_
  rw [← bellowslaw05_Same_eq]
  simp only [bellowslaw05_Same]
  refine h1.len (h2.len ?_)
  simp only [kBin_neq]
  refine kSplit_f (by simp) ?_
  refine lfp_ind (fun m t g' n' => g' = g ∧ ∃ i : Nat, m = xs.length - i ∧ i ≤ xs.length ∧ t 0 = v1 ∧ t 1 = v2 ∧ t 5 = .int .i64 i) ?_ (m := xs.length) ⟨rfl, 0, by simp, by simp, rfl, rfl, rfl⟩
  rintro I m t g1 n1 hI ⟨rfl, i, hm, hi, t0, t1, t5⟩
  simp only [bellowslaw05_Same_l1, t0, t1, t5]
  refine h1.len ?_
  simp only [kBin_lss, kSplit_b, decide_eq_true_eq, decide_eq_false_iff_not]
  refine ⟨fun hlt => ?_, fun hge => aRet_of (Sub.refl _) (hK _)⟩
  have hlt : i < xs.length := by omega
  have he : xs[i]? = some xs[i] := List.getElem?_eq_getElem hlt
  generalize xs[i] = s at he
  have ld2 : ∀ {l o : Nat} {K : List Value → Prop}, At g1 l o (encS s) → K (encL s.data) → kLdN g1 l (o + 2) 8 K := by
    rintro l o K ⟨bs, bk, e1, e2, e3⟩ k
    rw [encS_len] at e2 e3
    refine kLdN_of e1 (by omega) ?_
    have : (bs.drop (o + 2)).take 8 = encL s.data := by
      rw [← encS_data, ← e3, List.drop_take, List.take_take, List.drop_drop]
      rfl
    rw [this]; exact k
  refine h1.idx encS_len he (fun l o hat => ?_)
  simp only [kPtr_p]
  refine hat.ld (encS_0 s) ?_
  refine h2.idx encS_len he (fun l o hat => ?_)
  simp only [kPtr_p]
  refine hat.ld (encS_0 s) ?_
  simp only [kBin_neq]
  refine kSplit_f (by simp) ?_
  refine h1.idx encS_len he (fun l o hat => ?_)
  simp only [kPtr_p]
  refine hat.ld (encS_1 s) ?_
  refine h2.idx encS_len he (fun l o hat => ?_)
  simp only [kPtr_p]
  refine hat.ld (encS_1 s) ?_
  simp only [kBin_neq]
  refine kSplit_f (by simp) ?_
  refine h1.idx encS_len he (fun l o hat => ?_)
  simp only [kPtr_p]
  refine ld2 hat ?_
  refine h2.idx encS_len he (fun l o hat => ?_)
  simp only [kPtr_p]
  refine ld2 hat (neqL _ _ _ ?_)
  refine kSplit_f (by simp) ?_
  refine h1.idx encS_len he (fun l o hat => ?_)
  simp only [kPtr_p]
  refine hat.ld (encS_10 s) ?_
  refine h2.idx encS_len he (fun l o hat => ?_)
  simp only [kPtr_p]
  refine hat.ld (encS_10 s) ?_
  simp only [kBin_neq, kBin_add]
  refine kSplit_f (by simp) ?_
  rw [wrapNat (by omega)]
  exact hI (xs.length - (i + 1)) _ _ _ (by omega) ⟨rfl, i + 1, rfl, by omega, t0, t1, rfl⟩
end Go.Proofs.Ytncodeibkmekmab.Gen

namespace Go.Proofs.Ytncodeibkmekmab.Gen
open Go Go.Proofs.Ytncodeibkmekmab.Abs Go.RowKit
variable {g : G} {n : Nat}
/-- a slot is laid into a new block -/
theorem newS {s : St} {K : Nat → G → Nat → Prop} (k : ∀ g2, Sub g g2 → g n = none → g2 n = some (.cells (encS s) .exact) → K n g2 (n + 1)) :
    kNew (encS zeroS) .exact g n fun l g1 n1 => kAgg (.agg (encS s).toArray) fun cg => cg.length = 11 ∧ kStN g1 l 0 cg fun g2 => K l g2 n1 := by
  intro hn
  simp only [kAgg_a]
  refine ⟨encS_len _, kStN_of (upd_same _ _ _) rfl (by rw [encS_len, encS_len]; decide) (encS_cell _) ?_⟩
  rw [splice_all (by rw [encS_len, encS_len])]
  exact k _ (((Sub.refl g).new hn _).upd_fresh _ hn) hn (upd_same _ _ _)
theorem newZ {K : Nat → G → Nat → Prop} (k : ∀ g2, Sub g g2 → g n = none → g2 n = some (.cells (encS zeroS) .exact) → K n g2 (n + 1)) : kNew (encS zeroS) .exact g n K :=
  fun hn => k _ ((Sub.refl g).new hn _) hn (upd_same _ _ _)
/-- messages -/
structure Ms where
  kind : Int
  line : Int
  dirty : Bool
  kept : Bool
  data : Ln
  deriving DecidableEq
def encM (m : Ms) : List Value := [.int .i64 m.kind, .int .i64 m.line, .bool m.dirty, .bool m.kept] ++ encL m.data
theorem encM_len (m : Ms) : (encM m).length = 12 := by simp [encM, encL_len]
theorem encM_cell (m : Ms) : ∀ v ∈ encM m, isCell v = true := by
  intro v hv
  simp only [encM, List.mem_append, List.mem_cons, List.not_mem_nil, or_false] at hv
  rcases hv with (rfl | rfl | rfl | rfl) | h
  · rfl
  · rfl
  · rfl
  · rfl
  · exact encL_cell _ v h
def zeroM : Ms := ⟨0, 0, false, false, zeroL⟩
theorem encM_data (m : Ms) : ((encM m).drop 4).take 8 = encL m.data := by
  show (encL m.data).take 8 = _
  rw [List.take_of_length_le (by rw [encL_len]; exact Nat.le_refl _)]
theorem ldMd {l : Nat} {m : Ms} {bk : BK} {K : List Value → Prop} (h : g l = some (.cells (encM m) bk)) (k : K (encL m.data)) : kLdN g l (0 + 4) 8 K := by
  refine kLdN_of h (by rw [encM_len]; decide) ?_
  rw [Nat.zero_add, encM_data]; exact k
theorem ldM {l : Nat} {m : Ms} {bk : BK} {K : List Value → Prop} (h : g l = some (.cells (encM m) bk)) (k : K (encM m)) : kLdN g l 0 12 K := by
  refine kLdN_of h (by rw [encM_len]; decide) ?_
  rw [List.drop_zero, List.take_of_length_le (by rw [encM_len]; exact Nat.le_refl _)]; exact k
theorem ldSd {l : Nat} {s : St} {bk : BK} {K : List Value → Prop} (h : g l = some (.cells (encS s) bk)) (k : K (encL s.data)) : kLdN g l (0 + 2) 8 K := by
  refine kLdN_of h (by rw [encS_len]; decide) ?_
  rw [Nat.zero_add, encS_data]; exact k
theorem ldS0 {l : Nat} {s : St} {bk : BK} {K : Value → Prop} (h : g l = some (.cells (encS s) bk)) (k : K (.int .i64 s.state)) : kLd g l (0 + 0) K := kLd_of h (encS_0 s) k
theorem ldS1 {l : Nat} {s : St} {bk : BK} {K : Value → Prop} (h : g l = some (.cells (encS s) bk)) (k : K (.int .i64 s.line)) : kLd g l (0 + 1) K := kLd_of h (encS_1 s) k
theorem newM {m : Ms} {K : Nat → G → Nat → Prop} (k : ∀ g2, Sub g g2 → g n = none → g2 n = some (.cells (encM m) .exact) → K n g2 (n + 1)) :
    kNew (encM zeroM) .exact g n fun l g1 n1 => kAgg (.agg (encM m).toArray) fun cg => cg.length = 12 ∧ kStN g1 l 0 cg fun g2 => K l g2 n1 := by
  intro hn
  simp only [kAgg_a]
  refine ⟨encM_len _, kStN_of (upd_same _ _ _) rfl (by rw [encM_len, encM_len]; decide) (encM_cell _) ?_⟩
  rw [splice_all (by rw [encM_len, encM_len])]
  exact k _ (((Sub.refl g).new hn _).upd_fresh _ hn) hn (upd_same _ _ _)
theorem kFill_m2 {a b : Int} {K : List Value → Prop} (k : K (encM ⟨a, b, false, false, zeroL⟩)) : kFill (encM zeroM) [(0, none, .int .i64 a), (1, none, .int .i64 b)] K := ⟨rfl, by rw [encM_len]; decide, rfl, by rw [List.length_set, encM_len]; decide, k⟩
theorem kFill_m1 {b : Int} {K : List Value → Prop} (k : K (encM ⟨0, b, false, false, zeroL⟩)) : kFill (encM zeroM) [(1, none, .int .i64 b)] K := ⟨rfl, by rw [encM_len]; decide, k⟩
theorem kFill_M {m : Ms} {K : List Value → Prop} (k : K (encM m)) : kFill (reps 1 (encM zeroM)) [(0, some 12, .agg (encM m).toArray)] K := by
  refine ⟨encM_len m, by rw [show (reps 1 (encM zeroM)).length = 12 from rfl]; decide, ?_⟩
  have : splice (reps 1 (encM zeroM)) 0 (encM m) = encM m := splice_all (by rw [encM_len]; rfl)
  rw [this]; exact k
theorem stMd {l : Nat} {m : Ms} {d : Ln} {K : G → Prop} (h : g l = some (.cells (encM m) .exact)) (k : K (upd g l (some (.cells (encM { m with data := d }) .exact)))) : kStN g l (0 + 4) (encL d) K := by
  refine kStN_of h rfl (by rw [encM_len, encL_len]; decide) (encL_cell _) ?_
  have e : splice (encM m) (0 + 4) (encL d) = encM { m with data := d } := by
    unfold splice encM
    rw [encL_len]
    show [_, _, _, _] ++ encL d ++ (encL m.data).drop 8 = _
    rw [List.drop_of_length_le (by rw [encL_len]; exact Nat.le_refl _), List.append_nil]
  rw [e]
  exact k
/-! agents -/
structure AgH (g : G) (lg la ls : Nat) (A : Arr) : Prop where
  obj : g lg = some (.cells [ptr la 0] .exact)
  arr : ArrH g la ls A
  n1 : lg ≠ la
  n2 : lg ≠ ls
theorem AgH.mono {g' : G} {lg la ls : Nat} {A : Arr} (h : AgH g lg la ls A) (hs : Sub g g') : AgH g' lg la ls A := ⟨hs.live h.obj, h.arr.mono hs, h.n1, h.n2⟩
theorem AgH.next {g' : G} {lg la ls : Nat} {A A' : Arr} (h : AgH g lg la ls A) (hs : Sub (hide g la ls) g') (ha : ArrH g' la ls A') : AgH g' lg la ls A' :=
  ⟨hs.live (hide_live h.n1 h.n2 h.obj), ha, h.n1, h.n2⟩
theorem ldA {lg la ls : Nat} {A : Arr} (h : AgH g lg la ls A) {K : Value → Prop} (k : K (ptr la 0)) : kLd g lg (0 + 0) K := kLd_of h.obj rfl k
def Arr.slot (A : Arr) (line : Int) : St := (A.find line).1
def isW (a b : Int) : Bool := decide (0 ≤ a ∧ a < 64 ∧ 0 ≤ b ∧ b < 8)
def restB (s : St) : Bool := decide (0 ≤ s.state ∧ s.state ≤ 3)
def Arr.idle (A : Arr) : Bool := (A.slots.findIdx? fun s => !restB s).isNone
def Arr.owns (A : Arr) (line : Int) : Bool := decide ((A.slot line).state = 2 ∨ (A.slot line).state = 3)

theorem is_spec {a b : Int} {K : Cont} (hK : ∀ n', K (.bool (isW a b)) g n') : AC agent_is_id [.int .i64 a, .int .i64 b] g n K := by
  refine ACalls.fold X0_mono ?_
  rw [← agent_is_eq]
  simp only [agent_is, kBin_geq, kBin_lss, kSplit_b, decide_eq_true_eq, decide_eq_false_iff_not]
  have no : ¬ (0 ≤ a ∧ a < 64 ∧ 0 ≤ b ∧ b < 8) → aRet K (.bool false) g n := fun h => by
    have k := hK n
    unfold isW at k
    rw [decide_eq_false h] at k
    exact aRet_of (Sub.refl _) k
  refine ⟨fun h1 => ⟨fun h2 => ⟨fun h3 => aRet_of (Sub.refl _) ?_, fun h3 => no (by omega)⟩, fun h2 => no (by omega)⟩, fun h1 => no (by omega)⟩
  have k := hK n
  unfold isW at k
  rw [show decide (0 ≤ a ∧ a < 64 ∧ 0 ≤ b ∧ b < 8) = decide (b < 8) from by rw [decide_eq_decide]; omega] at k
  exact k
theorem find_spec {A : Arr} {lg la ls : Nat} {line : Int} (hok : A.ok) (hh : AgH g lg la ls A) {K : Cont} (hK : ∀ n', K (.agg (encS (A.slot line)).toArray) g n') : AC agent_Agent_find_id [ptr lg 0, .int .i64 line] g n K := by
  refine ACalls.fold X0_mono ?_
  rw [← agent_Agent_find_eq]
  simp only [agent_Agent_find, kNil_p, kPtr_p]
  refine newZ (fun g1 hs hn hl4 => ?_)
  have hh1 := hh.mono hs
  refine ldA hh1 (Find_spec hok hh1.arr (fun n2 => ?_))
  simp only [kExtract_t, kGet_zero, kGet_succ]
  refine newS (s := A.slot line) (fun g2 hs2 hn2 hl5 => ?_)
  refine ldS hl5 ?_
  simp only [kAgg_a]
  refine ⟨encS_len _, kStN_of (hs2.live hl4) rfl (by rw [encS_len, encS_len]; decide) (encS_cell _) ?_⟩
  rw [splice_all (by rw [encS_len, encS_len])]
  refine ldS (x := A.slot line) (upd_same _ _ _) ?_
  exact aRet_of ((hs.trans hs2).upd_fresh _ hn) (hK _)
theorem Owns_spec {A : Arr} {lg la ls : Nat} {line : Int} (hok : A.ok) (hh : AgH g lg la ls A) {K : Cont} (hK : ∀ n', K (.bool (A.owns line)) g n') : AC agent_Agent_Owns_id [ptr lg 0, .int .i64 line] g n K := by
  refine ACalls.fold X0_mono ?_
  rw [← agent_Agent_Owns_eq]
  simp only [agent_Agent_Owns, kBin_p_eql]
  refine kSplit_f rfl (find_spec hok hh (fun n1 => newS (s := A.slot line) (fun g2 hs2 _ hl => ?_)))
  refine ldS0 hl ?_
  simp only [kBin_eql, kSplit_b, decide_eq_true_eq, decide_eq_false_iff_not]
  have k := hK (n1 + 1)
  unfold Arr.owns at k
  refine ⟨fun h => aRet_of hs2 ?_, fun h => ldS0 hl ?_⟩
  · rw [decide_eq_true (.inl h)] at k; exact k
  · rw [show decide ((A.slot line).state = 2 ∨ (A.slot line).state = 3) = decide ((A.slot line).state = 3) from by rw [decide_eq_decide]; omega] at k
    simp only [kBin_eql]
    exact aRet_of hs2 k
theorem AgSlots_spec {A : Arr} {lg la ls : Nat} (hok : A.ok) (hh : AgH g lg la ls A) {K : Cont} (hK : ∀ v' g' n', Sub g g' → Sl encS 11 g' v' A.slots → K v' g' n') : AC agent_Agent_Slots_id [ptr lg 0] g n K := by
  refine ACalls.fold X0_mono ?_
  rw [← agent_Agent_Slots_eq]
  simp only [agent_Agent_Slots, kBin_p_eql, kNil_p, kPtr_p]
  exact kSplit_f rfl (ldA hh (Slots_spec hok hh.arr (fun v' g' n' h1 h2 => aRet_of (Sub.refl _) (hK _ _ _ h1 h2))))
theorem slotsN {A : Arr} (hok : A.ok) : A.slots.length ≤ 64 := by
  have := List.length_filter_le (fun s : St => !decide (s.state = 0)) A.l
  have := Arr.len64 hok
  unfold Arr.slots; omega
theorem rests_spec {x : Int} {K : Cont} (hK : ∀ n', K (.bool (decide (0 ≤ x ∧ x ≤ 3))) g n') : AC agent_rests_id [.int .i64 x] g n K := by
  refine ACalls.fold X0_mono ?_
  rw [← agent_rests_eq]
  simp only [agent_rests, kBin_geq, kBin_leq, kSplit_b, decide_eq_true_eq, decide_eq_false_iff_not]
  refine ⟨fun h => aRet_of (Sub.refl _) ?_, fun h => aRet_of (Sub.refl _) ?_⟩
  · have k := hK n
    rw [show decide (0 ≤ x ∧ x ≤ 3) = decide (x ≤ 3) from by rw [decide_eq_decide]; omega] at k
    exact k
  · have k := hK n
    rw [decide_eq_false (by omega)] at k
    exact k
theorem Idle1_spec {e : St} {K : Cont} (hK : ∀ n', K (.bool (!restB e)) g n') : AC agent_Agent_Idle_1_id [.agg (encS e).toArray] g n K := by
  refine ACalls.fold X0_mono ?_
  rw [← agent_Agent_Idle_1_eq]
  simp only [agent_Agent_Idle_1, kAgg_a]
  intro hn
  refine ldS0 (s := e) (upd_same _ _ _) ?_
  refine rests_spec (fun n2 => ?_)
  simp only [kUn_not]
  exact aRet_of ((Sub.refl g).new hn _) (hK _)
theorem Idle_spec {A : Arr} {lg la ls : Nat} (hok : A.ok) (hh : AgH g lg la ls A) {K : Cont} (hK : ∀ n', K (.bool A.idle) g n') : AC agent_Agent_Idle_id [ptr lg 0] g n K := by
  refine ACalls.fold X0_mono ?_
  rw [← agent_Agent_Idle_eq]
  simp only [agent_Agent_Idle, kBin_p_eql, kNil_p, kPtr_p]
  refine kSplit_f rfl (ldA hh (Slots_spec hok hh.arr (fun v1 g1 n1 hs1 h1 => ?_)))
  refine ACalls.fold X0_mono ?_
  rw [← slices_ContainsFunc_array_Slot_array_Slot_eq]
  simp only [slices_ContainsFunc_array_Slot_array_Slot]
  refine IndexFunc_Slot_spec (fun s => !restB s) h1 (fun g' n' e K' hs' hK' => ?_) (by have := slotsN hok; omega) (fun n2 => ?_)
  · simp only [kCall_f]
    exact Idle1_spec hK'
  · have k := hK n2
    unfold Arr.idle at k
    revert k
    cases (A.slots.findIdx? fun s => !restB s) with
    | none => intro k; simp only [idxV, kBin_geq]; exact aRet_of (Sub.refl _) (aRet_of hs1 k)
    | some i => intro k; simp only [idxV, kBin_geq]; exact aRet_of (Sub.refl _) (by rw [decide_eq_true (by omega)]; exact aRet_of hs1 k)
end Go.Proofs.Ytncodeibkmekmab.Gen

namespace Go.Proofs.Ytncodeibkmekmab.Gen
open Go Go.Proofs.Ytncodeibkmekmab.Abs Go.RowKit
variable {g : G} {n : Nat}
/-- what a call leaves, that answers messages -/
structure Out (g g' : G) (lg la ls : Nat) (A : Arr) (v : Value) (ms : List Ms) : Prop where
  hs : Sub (hide g la ls) g'
  ag : AgH g' lg la ls A
  sl : Sl encM 12 g' v ms
  fr : ∀ l, blkOf v = some l → g l = none
theorem Out.of {g0 g g' : G} {lg la ls : Nat} {A : Arr} {v : Value} {ms : List Ms} (h : Out g g' lg la ls A v ms) (hs : Sub g0 g) : Out g0 g' lg la ls A v ms :=
  ⟨(hide_mono hs).trans h.hs, h.ag, h.sl, fun l hl => hs.none (h.fr l hl)⟩
theorem Out.nil {lg la ls : Nat} {A : Arr} (h : AgH g lg la ls A) : Out g g lg la ls A (.slice none 0 0) [] := ⟨hide_sub _ _ _, h, Sl.nil, fun l hl => nomatch hl⟩
theorem Out.one {g g5 g6 : G} {m : Nat} {lg la ls : Nat} {A A' : Arr} {ms : Ms} (h : AgH g lg la ls A) (hs : Sub g g5) (hs6 : Sub (hide g5 la ls) g6) (hh6 : ArrH g6 la ls A') (hn : g6 m = none) :
    Out g (upd g6 m (some (.cells (encM ms) .exact))) lg la ls A' (.slice (some ⟨m, 0, none⟩) 1 1) [ms] := by
  have hs7 := (Sub.refl g6).new hn (some (.cells (encM ms) .exact))
  have h5 := h.mono hs
  have n1 := ne_of_live hh6.obj hn
  have n2 := ne_of_live hh6.row hn
  refine ⟨((hide_mono hs).trans hs6).trans hs7, (h5.next hs6 hh6).mono hs7, Sl.one (encM_len _) (upd_same _ _ _), fun l hl => ?_⟩
  cases hl
  cases hgm : g m with
  | none => rfl
  | some b =>
    have := hs6.live (hide_live n1 n2 (hs.live hgm))
    rw [hn] at this; cases this

def outM (s : St) : Ms := ⟨3, s.line, decide (s.state = 3), false, if s.state = 3 then s.data else zeroL⟩
def outSt (s : St) : Int := if s.state = 3 then 9 else 7
def Arr.out (A : Arr) (s : St) : List Ms × Arr := ([outM s], (A.set s.line (outSt s) s.data).2)
theorem out_spec {A : Arr} {lg la ls : Nat} {s : St} (hok : A.ok) (hu : A.used < 100000) (hh : AgH g lg la ls A) {K : Cont} (hK : ∀ v' g' n', Out g g' lg la ls (A.out s).2 v' (A.out s).1 → K v' g' n') :
    AC agent_Agent_out_id [ptr lg 0, .agg (encS s).toArray] g n K := by
  refine ACalls.fold X0_mono ?_
  rw [← agent_Agent_out_eq]
  simp only [agent_Agent_out, kAgg_a]
  intro hn
  have hs1 := (Sub.refl g).new hn (some (.cells (encS s) .exact))
  have hl3 := upd_same g n (some (.cells (encS s) .exact))
  generalize upd g n (some (.cells (encS s) .exact)) = g1 at *
  refine ldS1 hl3 (kFill_m2 (newM (fun g3 hs3 hn5 hl5 => ?_)))
  have hsg := hs1.trans hs3
  have hl3' := hs3.live hl3
  have hne : n + 1 ≠ n := by omega
  have j1 : ∀ (t : Env) (g5 : G) (n5 : Nat), Sub g g5 → g5 n = some (.cells (encS s) .exact) → g5 (n + 1) = some (.cells (encM (outM s)) .exact) → t 0 = ptr lg 0 → t 3 = ptr n 0 → t 5 = ptr (n + 1) 0 → t 6 = .int .i64 (outSt s) → agent_Agent_out_j1 AC K t g5 n5 := by
    intro t g5 n5 hs5 hl3 hl5 t0 t3 t5 t6
    have hh5 := hh.mono hs5
    simp only [agent_Agent_out_j1, t0, t3, t5, t6, kNil_p, kPtr_p]
    refine ldA hh5 (ldS1 hl3 (ldSd hl3 ?_))
    refine Set_spec (d := s.data) hok hu hh5.arr (fun g6 n6 hs6 hh6 => ?_)
    have hla := ne_of_live hh.arr.obj (hs1.none hn5)
    have hls := ne_of_live hh.arr.row (hs1.none hn5)
    refine ldM (hs6.live (hide_live hla hls hl5)) (kFill_M ?_)
    intro hn7
    exact aRet_of (Sub.refl _) (hK _ _ _ (Out.one hh hs5 hs6 hh6 hn7))
  refine ldS0 hl3' ?_
  simp only [kBin_eql, kSplit_b, decide_eq_true_eq, decide_eq_false_iff_not]
  have hng : g (n + 1) = none := hs1.none hn5
  refine ⟨fun h3 => ?_, fun h3 => ?_⟩
  · refine ldSd hl3' ?_
    refine kSt_of hl5 rfl (by rw [encM_len]; decide) rfl ?_
    refine ⟨upd_ne _ _ (fun e => hne e.symm), encL_len _, ?_⟩
    refine stMd (m := ⟨3, s.line, true, false, zeroL⟩) (upd_same _ _ _) ?_
    refine j1 _ _ _ ((hsg.upd_fresh _ hng).upd_fresh _ hng) ?_ ?_ rfl rfl rfl ?_
    · rw [upd_ne _ _ (fun e => hne e.symm), upd_ne _ _ (fun e => hne e.symm)]; exact hl3'
    · rw [upd_same]; unfold outM; rw [decide_eq_true h3, if_pos h3]
    · unfold outSt; rw [if_pos h3]; rfl
  · refine j1 _ _ _ hsg hl3' ?_ rfl rfl rfl ?_
    · rw [hl5]; unfold outM; rw [decide_eq_false h3, if_neg h3]
    · unfold outSt; rw [if_neg h3]; rfl

def Arr.ask (A : Arr) (line state kind : Int) (d : Ln) : List Ms × Arr :=
  if A.idle = false then ([], A) else
  if state ≠ 6 ∧ (A.room line).1 = false then (if (A.room line).2 < 0 then ([], A) else A.out (A.slot (A.room line).2))
  else ([⟨kind, line, false, false, zeroL⟩], (A.set line state d).2)
theorem ask_spec {A : Arr} {lg la ls : Nat} {line state kind : Int} {d : Ln} (hok : A.ok) (hu : A.used < 100000) (hh : AgH g lg la ls A) {K : Cont}
    (hK : ∀ v' g' n', Out g g' lg la ls (A.ask line state kind d).2 v' (A.ask line state kind d).1 → K v' g' n') :
    AC agent_Agent_ask_id [ptr lg 0, .int .i64 line, .int .i64 state, .int .i64 kind, .agg (encL d).toArray] g n K := by
  refine ACalls.fold X0_mono ?_
  rw [← agent_Agent_ask_eq]
  simp only [agent_Agent_ask, kAgg_a]
  intro hn
  have hs1 := (Sub.refl g).new hn (some (.cells (encL d) .exact))
  have hl9 := upd_same g n (some (.cells (encL d) .exact))
  generalize upd g n (some (.cells (encL d) .exact)) = g1 at *
  have hh1 := hh.mono hs1
  refine Idle_spec hok hh1 (fun n2 => ?_)
  simp only [kUn_not, kSplit_b, Bool.not_eq_true', Bool.not_eq_false']
  refine ⟨fun hi => ?_, fun hi => ?_⟩
  · have e : A.ask line state kind d = ([], A) := by unfold Arr.ask; rw [if_pos hi]
    rw [e] at hK
    exact aRet_of (Sub.refl _) (hK _ _ _ ((Out.nil hh1).of hs1))
  have hi' : ¬ A.idle = false := by rw [hi]; decide
  have j1 : ∀ (t : Env) (m : Nat), ¬ (state ≠ 6 ∧ (A.room line).1 = false) → t 0 = ptr lg 0 → t 1 = .int .i64 line → t 2 = .int .i64 state → t 3 = .int .i64 kind → t 9 = ptr n 0 → agent_Agent_ask_j1 AC K t g1 m := by
    intro t m hc t0 t1 t2 t3 t9
    have e : A.ask line state kind d = ([⟨kind, line, false, false, zeroL⟩], (A.set line state d).2) := by unfold Arr.ask; rw [if_neg hi', if_neg hc]
    rw [e] at hK
    simp only [agent_Agent_ask_j1, t0, t1, t2, t3, t9, kNil_p, kPtr_p]
    refine ldA hh1 (ldL hl9 ?_)
    refine Set_spec (d := d) hok hu hh1.arr (fun g6 n6 hs6 hh6 => kFill_m2 (kFill_M ?_))
    intro hn7
    exact aRet_of (Sub.refl _) (hK _ _ _ (Out.one hh hs1 hs6 hh6 hn7))
  simp only [kBin_neq, kSplit_b, decide_eq_true_eq, decide_eq_false_iff_not]
  refine ⟨fun h6 => ?_, fun h6 => j1 _ _ (fun h => h6 h.1) rfl rfl rfl rfl rfl⟩
  simp only [kNil_p, kPtr_p]
  refine ldA hh1 (Room_spec hok hh1.arr (fun n3 => ?_))
  simp only [kExtract_t, kGet_zero, kGet_succ, kUn_not, kSplit_b, Bool.not_eq_true', Bool.not_eq_false', kBin_lss, decide_eq_true_eq, decide_eq_false_iff_not]
  refine ⟨fun hf => ⟨fun hv => ?_, fun hv => ⟨fun _ => ?_, fun h => (by rw [hf] at h; cases h)⟩⟩, fun hf => ⟨fun h => (by rw [hf] at h; cases h), fun _ => j1 _ _ (fun h => (by rw [hf] at h; exact absurd h.2 (by decide))) rfl rfl rfl rfl rfl⟩⟩
  · have e : A.ask line state kind d = ([], A) := by unfold Arr.ask; rw [if_neg hi', if_pos ⟨h6, hf⟩, if_pos hv]
    rw [e] at hK
    exact aRet_of (Sub.refl _) (hK _ _ _ ((Out.nil hh1).of hs1))
  · have e : A.ask line state kind d = A.out (A.slot (A.room line).2) := by unfold Arr.ask; rw [if_neg hi', if_pos ⟨h6, hf⟩, if_neg hv]
    rw [e] at hK
    refine find_spec hok hh1 (fun n4 => ?_)
    exact out_spec hok hu hh1 (fun v' g' n' ho => aRet_of (Sub.refl _) (hK _ _ _ (ho.of hs1)))
end Go.Proofs.Ytncodeibkmekmab.Gen

namespace Go.Proofs.Ytncodeibkmekmab.Gen
open Go Go.Proofs.Ytncodeibkmekmab.Abs Go.RowKit
variable {g : G} {n : Nat}
def wordAt (d : Ln) (w : Int) : Int := d.1.getD w.toNat 0
theorem encS_w (s : St) {w : Nat} (hw : w < 8) : (encS s)[2 + w]? = some (.int .u64 (s.data.1.getD w 0)) := by
  have h1 : ((encS s).drop 2).take 8 = encL s.data := encS_data s
  have h2 : (((encS s).drop 2).take 8)[w]? = (encS s)[2 + w]? := by rw [List.getElem?_take, if_pos hw, List.getElem?_drop]
  rw [← h2, h1]
  have h3 := s.data.2
  unfold encL
  rw [List.getElem?_map, List.getElem?_eq_getElem (by omega), List.getD_eq_getElem?_getD, List.getElem?_eq_getElem (by omega)]
  rfl
def hitB (s : St) : Bool := decide (s.state = 1 ∨ s.state = 2 ∨ s.state = 3 ∨ s.state = 6)
def Arr.loadHit (A : Arr) (line word : Int) : Bool := isW line word && hitB (A.slot line)
def Arr.loadV (A : Arr) (line word : Int) : Int := if A.loadHit line word then wordAt (A.slot line).data word else 0
def Arr.load (A : Arr) (line word : Int) : List Ms × Arr :=
  if isW line word = false then ([], A) else if A.loadHit line word then ([], A.touch line) else A.ask line 4 1 zeroL
theorem Load_spec {A : Arr} {lg la ls : Nat} {line word : Int} (hok : A.ok) (hu : A.used < 100000) (hh : AgH g lg la ls A) {K : Cont}
    (hK : ∀ v' g' n', Out g g' lg la ls (A.load line word).2 v' (A.load line word).1 → K (.tuple #[.int .u64 (A.loadV line word), .bool (A.loadHit line word), v']) g' n') :
    AC agent_Agent_Load_id [ptr lg 0, .int .i64 line, .int .i64 word] g n K := by
  refine ACalls.fold X0_mono ?_
  rw [← agent_Agent_Load_eq]
  simp only [agent_Agent_Load, kBin_p_eql]
  refine kSplit_f rfl (is_spec (fun n1 => ?_))
  simp only [kUn_not, kSplit_b, Bool.not_eq_true', Bool.not_eq_false']
  refine ⟨fun hi => ?_, fun hi => ?_⟩
  · have e0 : A.loadHit line word = false := by unfold Arr.loadHit; rw [hi]; rfl
    have e1 : A.loadV line word = 0 := by unfold Arr.loadV; rw [e0]; rfl
    have e2 : A.load line word = ([], A) := by unfold Arr.load; rw [if_pos hi]
    rw [e0, e1, e2] at hK
    exact aRet_of (Sub.refl _) (hK _ _ _ (Out.nil hh))
  have hw : 0 ≤ word ∧ word < 8 := by
    have := of_decide_eq_true (show isW line word = true from hi); omega
  refine find_spec hok hh (fun n2 => newS (s := A.slot line) (fun g4 hs4 hn4 hl9 => ?_))
  have hh4 := hh.mono hs4
  have j2 : ∀ (t : Env) (m : Nat), hitB (A.slot line) = false → t 0 = ptr lg 0 → t 1 = .int .i64 line → agent_Agent_Load_j2 AC K t g4 m := by
    intro t m hb t0 t1
    have e0 : A.loadHit line word = false := by unfold Arr.loadHit; rw [hb, Bool.and_false]
    have e1 : A.loadV line word = 0 := by unfold Arr.loadV; rw [e0]; rfl
    have e2 : A.load line word = A.ask line 4 1 zeroL := by unfold Arr.load; rw [if_neg (by rw [hi]; decide), e0]; rfl
    rw [e0, e1, e2] at hK
    simp only [agent_Agent_Load_j2, t0, t1, kFill_nil]
    exact ask_spec (d := zeroL) hok hu hh4 (fun v' g' n' ho => aRet_of (Sub.refl _) (hK _ _ _ (ho.of hs4)))
  have j1 : ∀ (t : Env) (m : Nat), t 23 = .bool (hitB (A.slot line)) → t 0 = ptr lg 0 → t 1 = .int .i64 line → t 2 = .int .i64 word → t 9 = ptr n2 0 → agent_Agent_Load_j1 AC K t g4 m := by
    intro t m t23 t0 t1 t2 t9
    simp only [agent_Agent_Load_j1, t23, t0, t1, t2, t9, kSplit_b, kNil_p, kPtr_p]
    refine ⟨fun hb => ?_, fun hb => j2 _ _ hb t0 t1⟩
    have e0 : A.loadHit line word = true := by unfold Arr.loadHit; rw [hb, hi]; rfl
    have e1 : A.loadV line word = wordAt (A.slot line).data word := by unfold Arr.loadV; rw [e0]; rfl
    have e2 : A.load line word = ([], A.touch line) := by unfold Arr.load; rw [if_neg (by rw [hi]; decide), e0]; rfl
    rw [e0, e1, e2] at hK
    refine ldA hh4 (Touch_spec hok hu hh4.arr (fun g5 n5 hs5 hh5 => ?_))
    refine ⟨hw.1, hw.2, ?_⟩
    simp only [kPtr_p]
    have hl9' := hs5.live (hide_live (ne_of_live hh.arr.obj hn4) (ne_of_live hh.arr.row hn4) hl9)
    refine kLd_of hl9' (v := .int .u64 (wordAt (A.slot line).data word)) ?_ ?_
    · rw [show 0 + 2 + word.toNat * 1 = 2 + word.toNat by omega]
      exact encS_w _ (by omega)
    · refine aRet_of (Sub.refl _) (hK _ _ _ ?_)
      exact ⟨(hide_mono hs4).trans hs5, hh4.next hs5 hh5, Sl.nil, fun l hl => nomatch hl⟩
  refine ldS0 hl9 ?_
  simp only [kBin_eql, kSplit_b, decide_eq_true_eq, decide_eq_false_iff_not]
  have hb : ∀ {p : Prop} [Decidable p], (p ↔ hitB (A.slot line) = true) → decide p = hitB (A.slot line) := fun h => by rw [Bool.eq_iff_iff, decide_eq_true_eq]; exact h
  have hit : hitB (A.slot line) = true ↔ (A.slot line).state = 1 ∨ (A.slot line).state = 2 ∨ (A.slot line).state = 3 ∨ (A.slot line).state = 6 := by unfold hitB; rw [decide_eq_true_eq]
  refine ⟨fun h1 => j1 _ _ ?_ rfl rfl rfl rfl, fun h1 => ⟨fun h2 => j1 _ _ ?_ rfl rfl rfl rfl, fun h2 => ⟨fun h3 => j1 _ _ ?_ rfl rfl rfl rfl, fun h3 => j1 _ _ ?_ rfl rfl rfl rfl⟩⟩⟩
  · show Value.bool (decide _) = _
    rw [hb (by rw [hit]; omega)]
  · show Value.bool (decide _) = _
    rw [hb (by rw [hit]; omega)]
  · show Value.bool (decide _) = _
    rw [hb (by rw [hit]; omega)]
  · show Value.bool (decide _) = _
    rw [hb (by rw [hit]; omega)]

def Arr.reach (A : Arr) (line : Int) : List Ms × Arr :=
  if isW line 0 = false ∨ A.owns line = true then ([], A) else
  if (A.slot line).state = 1 then A.ask line 6 2 (A.slot line).data else A.ask line 5 2 zeroL
theorem Reach_spec {A : Arr} {lg la ls : Nat} {line : Int} (hok : A.ok) (hu : A.used < 100000) (hh : AgH g lg la ls A) {K : Cont}
    (hK : ∀ v' g' n', Out g g' lg la ls (A.reach line).2 v' (A.reach line).1 → K v' g' n') :
    AC agent_Agent_Reach_id [ptr lg 0, .int .i64 line] g n K := by
  refine ACalls.fold X0_mono ?_
  rw [← agent_Agent_Reach_eq]
  simp only [agent_Agent_Reach, kBin_p_eql]
  refine kSplit_f rfl (is_spec (fun n1 => ?_))
  simp only [kUn_not, kSplit_b, Bool.not_eq_true', Bool.not_eq_false']
  refine ⟨fun hi => ?_, fun hi => Owns_spec hok hh (fun n2 => ?_)⟩
  · have e : A.reach line = ([], A) := by unfold Arr.reach; rw [if_pos (.inl hi)]
    rw [e] at hK
    exact aRet_of (Sub.refl _) (hK _ _ _ (Out.nil hh))
  simp only [kSplit_b]
  refine ⟨fun ho => ?_, fun ho => ?_⟩
  · have e : A.reach line = ([], A) := by unfold Arr.reach; rw [if_pos (.inr ho)]
    rw [e] at hK
    exact aRet_of (Sub.refl _) (hK _ _ _ (Out.nil hh))
  have hc : ¬ (isW line 0 = false ∨ A.owns line = true) := by rw [hi, ho]; decide
  refine find_spec hok hh (fun n3 => newS (s := A.slot line) (fun g4 hs4 hn4 hl => ?_))
  have hh4 := hh.mono hs4
  refine ldS0 hl ?_
  simp only [kBin_eql, kSplit_b, decide_eq_true_eq, decide_eq_false_iff_not]
  refine ⟨fun h1 => ?_, fun h1 => ?_⟩
  · have e : A.reach line = A.ask line 6 2 (A.slot line).data := by unfold Arr.reach; rw [if_neg hc, if_pos h1]
    rw [e] at hK
    refine ldSd hl ?_
    exact ask_spec (d := (A.slot line).data) hok hu hh4 (fun v' g' n' ho => aRet_of (Sub.refl _) (hK _ _ _ (ho.of hs4)))
  · have e : A.reach line = A.ask line 5 2 zeroL := by unfold Arr.reach; rw [if_neg hc, if_neg h1]
    rw [e] at hK
    simp only [kFill_nil]
    exact ask_spec (d := zeroL) hok hu hh4 (fun v' g' n' ho => aRet_of (Sub.refl _) (hK _ _ _ (ho.of hs4)))

def Arr.storeHit (A : Arr) (line word : Int) : Bool := isW line word && A.owns line
def Arr.store (A : Arr) (line word v : Int) : List Ms × Arr :=
  if isW line word = false then ([], A) else if A.owns line = false then A.reach line else ([], (A.set line 3 ((A.slot line).data.put word.toNat v)).2)
theorem stSw {l : Nat} {s : St} {w : Int} {v : Int} {K : Value → Nat → Nat → G → Prop} (hw : 0 ≤ w ∧ w < 8) (h : g l = some (.cells (encS s) .exact))
    (k : ∀ p l' o, K p l' o (upd g l (some (.cells (encS { s with data := s.data.put w.toNat v }) .exact)))) :
    kIndexArr (ptr l (0 + 2)) (.int .i64 w) 8 1 fun p => kPtr p fun l' o => kSt g l' o (.int .u64 v) (K p l' o) := by
  refine ⟨hw.1, hw.2, ?_⟩
  simp only [kPtr_p]
  refine kSt_of h rfl (by rw [encS_len]; omega) rfl ?_
  have e : (encS s).set (0 + 2 + w.toNat * 1) (.int .u64 v) = encS { s with data := s.data.put w.toNat v } := by
    rw [show 0 + 2 + w.toNat * 1 = w.toNat + 2 by omega]
    show ([_, _] ++ encL s.data ++ [_]).set (w.toNat + 2) _ = [_, _] ++ encL (s.data.put w.toNat v) ++ [_]
    have h8 := s.data.2
    have e1 : (encL s.data).set w.toNat (.int .u64 v) = encL (s.data.put w.toNat v) := by simp [encL, Ln.put, List.map_set]
    rw [← e1]
    simp only [List.cons_append, List.nil_append, List.set_cons_succ]
    rw [List.set_append, if_pos (by rw [encL_len]; omega)]
  rw [e]
  exact k _ _ _
theorem Store_spec {A : Arr} {lg la ls : Nat} {line word v : Int} (hok : A.ok) (hu : A.used < 100000) (hh : AgH g lg la ls A) {K : Cont}
    (hK : ∀ v' g' n', Out g g' lg la ls (A.store line word v).2 v' (A.store line word v).1 → K (.tuple #[.bool (A.storeHit line word), v']) g' n') :
    AC agent_Agent_Store_id [ptr lg 0, .int .i64 line, .int .i64 word, .int .u64 v] g n K := by
  refine ACalls.fold X0_mono ?_
  rw [← agent_Agent_Store_eq]
  simp only [agent_Agent_Store, kBin_p_eql]
  refine kSplit_f rfl (is_spec (fun n1 => ?_))
  simp only [kUn_not, kSplit_b, Bool.not_eq_true', Bool.not_eq_false']
  refine ⟨fun hi => ?_, fun hi => ?_⟩
  · have e0 : A.storeHit line word = false := by unfold Arr.storeHit; rw [hi]; rfl
    have e : A.store line word v = ([], A) := by unfold Arr.store; rw [if_pos hi]
    rw [e0, e] at hK
    exact aRet_of (Sub.refl _) (hK _ _ _ (Out.nil hh))
  have hw : 0 ≤ word ∧ word < 8 := by
    have := of_decide_eq_true (show isW line word = true from hi); omega
  have hi' : ¬ isW line word = false := by rw [hi]; decide
  refine Owns_spec hok hh (fun n2 => ?_)
  simp only [kUn_not, kSplit_b, Bool.not_eq_true', Bool.not_eq_false']
  refine ⟨fun ho => ?_, fun ho => ?_⟩
  · have e0 : A.storeHit line word = false := by unfold Arr.storeHit; rw [ho, Bool.and_false]
    have e : A.store line word v = A.reach line := by unfold Arr.store; rw [if_neg hi', if_pos ho]
    rw [e0, e] at hK
    exact Reach_spec hok hu hh (fun v' g' n' h => aRet_of (Sub.refl _) (hK _ _ _ h))
  · have e0 : A.storeHit line word = true := by unfold Arr.storeHit; rw [ho, hi]; rfl
    have e : A.store line word v = ([], (A.set line 3 ((A.slot line).data.put word.toNat v)).2) := by unfold Arr.store; rw [if_neg hi', if_neg (by rw [ho]; decide)]
    rw [e0, e] at hK
    refine find_spec hok hh (fun n3 => newS (s := A.slot line) (fun g4 hs4 hn4 hl => ?_))
    refine stSw hw hl (fun _ _ _ => ?_)
    have hs7 := hs4.upd_fresh (some (.cells (encS { A.slot line with data := (A.slot line).data.put word.toNat v }) .exact)) hn4
    have hl7 := upd_same g4 n3 (some (.cells (encS { A.slot line with data := (A.slot line).data.put word.toNat v }) .exact))
    generalize upd g4 n3 (some (.cells (encS { A.slot line with data := (A.slot line).data.put word.toNat v }) .exact)) = g7 at *
    have hh7 := hh.mono hs7
    simp only [kNil_p, kPtr_p]
    refine ldA hh7 (ldSd hl7 ?_)
    refine Set_spec (d := (A.slot line).data.put word.toNat v) hok hu hh7.arr (fun g8 n8 hs8 hh8 => ?_)
    refine aRet_of (Sub.refl _) (hK _ _ _ ?_)
    exact ⟨(hide_mono hs7).trans hs8, hh7.next hs8 hh8, Sl.nil, fun l hl => nomatch hl⟩
end Go.Proofs.Ytncodeibkmekmab.Gen

namespace Go.Proofs.Ytncodeibkmekmab.Gen
open Go Go.Proofs.Ytncodeibkmekmab.Abs Go.RowKit
variable {g : G} {n : Nat}
def mayL : List Int := [0, 0, 0, 1, 0, 0, 1, 3, 4, 4, 4, 0, 0, 0, 0]
def ints64 (l : List Int) : List Value := l.map (.int .i64 ·)
theorem may_spec {K : Cont} (hK : ∀ n', K (.agg (ints64 mayL).toArray) g n') : AC msg_may_id [] g n K :=
  AC_ev (.agg (ints64 mayL).toArray) 1000 100 (by kernel_rfl) (by kernel_rfl) (by kernel_rfl) hK
def turn (k s : Int) : Int :=
  if k = 14 then -2 else
  if k = 8 then (if s = 4 then 1 else -1) else
  if k = 9 then (if s = 4 then 2 else -1) else
  if k = 10 then (if s = 5 ∨ s = 6 then 2 else -1) else
  if k = 11 then (if 7 ≤ s then 0 else -1) else
  if k = 12 then (if 1 ≤ s ∧ s ≤ 3 then 0 else if s = 6 then 5 else if s = 7 ∨ s = 9 then 8 else -1) else
  if k = 13 then (if s = 2 ∨ s = 3 then 1 else if s = 7 ∨ s = 9 then 8 else -1) else -1
def turnRow (k : Nat) : List Int := (List.range 10).map fun (s : Nat) => turn (k : Int) (s : Int)
def turnsL : List Int := (List.range 15).flatMap turnRow
theorem turns_spec {K : Cont} (hK : ∀ n', K (.agg (ints64 turnsL).toArray) g n') : AC agent_turns_id [] g n K :=
  AC_ev (.agg (ints64 turnsL).toArray) 1000 100 (by kernel_rfl) (by kernel_rfl) (by kernel_rfl) hK
theorem turn_get : ∀ k : Fin 15, ∀ s : Fin 10, (((ints64 turnsL).drop (k.val * 10)).take 10)[s.val]? = some (.int .i64 (turn k.val s.val)) ∧ k.val * 10 + 10 ≤ (ints64 turnsL).length := by
  intro k s
  have h : ((turnsL.drop (k.val * 10)).take 10)[s.val]? = some (turn k.val s.val) ∧ k.val * 10 + 10 ≤ turnsL.length := by
    revert k s; decide +kernel
  unfold ints64
  rw [← List.map_drop, ← List.map_take, List.getElem?_map, h.1, List.length_map]
  exact ⟨rfl, h.2⟩
def goodM (m : Ms) : Bool := decide (1 ≤ m.kind ∧ m.kind ≤ 14 ∧ 0 ≤ m.line ∧ m.line < 64) && (!m.dirty || decide (m.kind = 3 ∨ m.kind = 6 ∨ m.kind = 7)) && (!m.kept || decide (m.kind = 7)) &&
  (m.dirty || decide (m.kind = 8 ∨ m.kind = 9 ∨ m.kind = 10) || decide (m.data = zeroL))
def tellsB (k : Int) : Bool := decide (8 ≤ k ∧ k ≤ 14)
theorem Tells_spec {x : Int} {K : Cont} (hK : ∀ n', K (.bool (tellsB x)) g n') : AC msg_Tells_id [.int .i64 x] g n K := by
  refine ACalls.fold X0_mono ?_
  rw [← msg_Tells_eq]
  unfold tellsB at hK
  simp only [msg_Tells, kBin_geq, kBin_leq, kSplit_b, decide_eq_true_eq, decide_eq_false_iff_not]
  refine ⟨fun h => aRet_of (Sub.refl _) ?_, fun h => aRet_of (Sub.refl _) ?_⟩
  · have k := hK n
    rw [show decide (8 ≤ x ∧ x ≤ 14) = decide (x ≤ 14) from by rw [decide_eq_decide]; omega] at k
    exact k
  · have k := hK n
    rw [decide_eq_false (by omega)] at k
    exact k
theorem ldM0 {l : Nat} {m : Ms} {bk : BK} {K : Value → Prop} (h : g l = some (.cells (encM m) bk)) (k : K (.int .i64 m.kind)) : kLd g l (0 + 0) K := kLd_of h rfl k
theorem ldM1 {l : Nat} {m : Ms} {bk : BK} {K : Value → Prop} (h : g l = some (.cells (encM m) bk)) (k : K (.int .i64 m.line)) : kLd g l (0 + 1) K := kLd_of h rfl k
theorem ldM2 {l : Nat} {m : Ms} {bk : BK} {K : Value → Prop} (h : g l = some (.cells (encM m) bk)) (k : K (.bool m.dirty)) : kLd g l (0 + 2) K := kLd_of h rfl k
theorem ldM3 {l : Nat} {m : Ms} {bk : BK} {K : Value → Prop} (h : g l = some (.cells (encM m) bk)) (k : K (.bool m.kept)) : kLd g l (0 + 3) K := kLd_of h rfl k
theorem mayIdx {k : Int} (h1 : 1 ≤ k) (h14 : k ≤ 14) {K : Value → Prop} (kk : ∀ b : Int, (b = (if k = 3 ∨ k = 6 then 1 else if k = 7 then 3 else if k = 8 ∨ k = 9 ∨ k = 10 then 4 else 0)) → K (.int .i64 b)) :
    kIdx (.agg (ints64 mayL).toArray) (.int .i64 k) 15 1 none K := by
  simp only [kIdx, kAgg_a, kInt_i, kPart]
  refine ⟨by omega, by omega, ?_⟩
  have : k = 1 ∨ k = 2 ∨ k = 3 ∨ k = 4 ∨ k = 5 ∨ k = 6 ∨ k = 7 ∨ k = 8 ∨ k = 9 ∨ k = 10 ∨ k = 11 ∨ k = 12 ∨ k = 13 ∨ k = 14 := by omega
  rcases this with rfl | rfl | rfl | rfl | rfl | rfl | rfl | rfl | rfl | rfl | rfl | rfl | rfl | rfl <;> exact kk _ (by decide)
theorem Good_spec {m : Ms} {K : Cont} (hK : ∀ n', K (.bool (goodM m)) g n') : AC msg_Good_id [.agg (encM m).toArray] g n K := by
  refine ACalls.fold X0_mono ?_
  rw [← msg_Good_eq]
  simp only [msg_Good, kAgg_a]
  intro hn
  have hs := (Sub.refl g).new hn (some (.cells (encM m) .exact))
  have hl := upd_same g n (some (.cells (encM m) .exact))
  generalize upd g n (some (.cells (encM m) .exact)) = g1 at *
  have no : ∀ n', goodM m = false → aRet K (.bool false) g1 n' := fun n' h => by
    have k := hK n'
    rw [h] at k
    exact aRet_of hs k
  have bad : ¬ (1 ≤ m.kind ∧ m.kind ≤ 14 ∧ 0 ≤ m.line ∧ m.line < 64) → goodM m = false := fun h => by unfold goodM; rw [decide_eq_false h]; rfl
  refine ldM0 hl ?_
  simp only [kBin_lss, kSplit_b, decide_eq_true_eq, decide_eq_false_iff_not]
  refine ⟨fun h => no _ (bad (by omega)), fun h1 => ldM0 hl ?_⟩
  simp only [kBin_gtr, kSplit_b, decide_eq_true_eq, decide_eq_false_iff_not]
  refine ⟨fun h => no _ (bad (by omega)), fun h2 => ldM1 hl ?_⟩
  simp only [kBin_lss, kSplit_b, decide_eq_true_eq, decide_eq_false_iff_not]
  refine ⟨fun h => no _ (bad (by omega)), fun h3 => ldM1 hl ?_⟩
  simp only [kBin_geq, kSplit_b, decide_eq_true_eq, decide_eq_false_iff_not]
  refine ⟨fun h => no _ (bad (by omega)), fun h4 => ldM0 hl ?_⟩
  refine may_spec (fun n2 => ⟨rfl, mayIdx (by omega) (by omega) (fun b hb => ?_)⟩)
  have ok : decide (1 ≤ m.kind ∧ m.kind ≤ 14 ∧ 0 ≤ m.line ∧ m.line < 64) = true := by rw [decide_eq_true_eq]; omega
  have bc : b = 0 ∨ b = 1 ∨ b = 3 ∨ b = 4 := by
    rw [hb]
    split
    · omega
    · split
      · omega
      · split <;> omega
  have and1 : ∀ {K' : Value → Prop}, K' (.int .i64 (if b = 1 ∨ b = 3 then 1 else 0)) → kBin .int .and (.int .i64 b) (.int .i64 1) K' := by
    intro K' k
    rcases bc with rfl | rfl | rfl | rfl <;> exact ⟨rfl, k⟩
  have and2 : ∀ {K' : Value → Prop}, K' (.int .i64 (if b = 3 then 2 else 0)) → kBin .int .and (.int .i64 b) (.int .i64 2) K' := by
    intro K' k
    rcases bc with rfl | rfl | rfl | rfl <;> exact ⟨rfl, k⟩
  have and4 : ∀ {K' : Value → Prop}, K' (.int .i64 (if b = 4 then 4 else 0)) → kBin .int .and (.int .i64 b) (.int .i64 4) K' := by
    intro K' k
    rcases bc with rfl | rfl | rfl | rfl <;> exact ⟨rfl, k⟩
  have i1 : (b = 1 ∨ b = 3) ↔ (m.kind = 3 ∨ m.kind = 6 ∨ m.kind = 7) := by
    rw [hb]
    split
    · omega
    · split
      · omega
      · split <;> omega
  have i2 : b = 3 ↔ m.kind = 7 := by
    rw [hb]
    split
    · omega
    · split
      · omega
      · split <;> omega
  have i4 : b = 4 ↔ (m.kind = 8 ∨ m.kind = 9 ∨ m.kind = 10) := by
    rw [hb]
    split
    · omega
    · split
      · omega
      · split <;> omega
  have j1 : ∀ (t : Env) (n' : Nat), (m.dirty = true → (m.kind = 3 ∨ m.kind = 6 ∨ m.kind = 7)) → (m.kept = true → m.kind = 7) → t 1 = ptr n 0 → t 3 = .int .i64 b → msg_Good_j1 AC K t g1 n' := by
    intro t n' hd hk t1 t3
    have eg : goodM m = (m.dirty || decide (m.kind = 8 ∨ m.kind = 9 ∨ m.kind = 10) || decide (m.data = zeroL)) := by
      unfold goodM
      rw [ok]
      have e1 : (!m.dirty || decide (m.kind = 3 ∨ m.kind = 6 ∨ m.kind = 7)) = true := by
        cases h : m.dirty with
        | false => rfl
        | true => rw [decide_eq_true (hd h)]; rfl
      have e2 : (!m.kept || decide (m.kind = 7)) = true := by
        cases h : m.kept with
        | false => rfl
        | true => rw [decide_eq_true (hk h)]; rfl
      rw [e1, e2]; rfl
    simp only [msg_Good_j1, t1, t3, kPtr_p]
    refine ldM2 hl ?_
    simp only [kSplit_b]
    refine ⟨fun h => aRet_of hs ?_, fun h => ?_⟩
    · have k := hK n'; rw [eg, h] at k; exact k
    refine and4 ?_
    simp only [kBin_neq, kSplit_b, decide_eq_true_eq, decide_eq_false_iff_not]
    refine ⟨fun h4' => aRet_of hs ?_, fun h4' => ?_⟩
    · have : b = 4 := Classical.byContradiction fun e => by rw [if_neg e] at h4'; exact absurd rfl h4'
      have k := hK n'
      rw [eg, h, decide_eq_true (i4.1 this)] at k; exact k
    · have : ¬ b = 4 := by intro e; rw [if_pos e] at h4'; exact h4' (by decide)
      refine ldMd hl ?_
      simp only [kFill_nil]
      refine eqL m.data zeroL _ (aRet_of hs ?_)
      have k := hK n'
      rw [eg, h, decide_eq_false (fun e => this (i4.2 e))] at k; exact k
  have kept : ∀ (t t2 : Env) (n' : Nat), (m.dirty = true → (m.kind = 3 ∨ m.kind = 6 ∨ m.kind = 7)) → True := fun _ _ _ _ => trivial
  refine ldM2 hl ?_
  simp only [kSplit_b]
  have badK : m.kept = true → b ≠ 3 → goodM m = false := fun h hb3 => by
    unfold goodM
    rw [h, decide_eq_false (fun e => hb3 (i2.2 e))]
    simp
  have z2 : ∀ x : Int, (if x = 3 then (2 : Int) else 0) = 0 ↔ x ≠ 3 := by intro x; by_cases e : x = 3 <;> simp [e]
  refine ⟨fun hd => ?_, fun hd => ?_⟩
  · refine and1 ?_
    simp only [kBin_eql, kSplit_b, decide_eq_true_eq, decide_eq_false_iff_not]
    refine ⟨fun h => ⟨fun _ => no _ ?_, fun h' => absurd h h'⟩, fun h => ?_⟩
    · have : ¬ (b = 1 ∨ b = 3) := by intro e; rw [if_pos e] at h; exact absurd h (by decide)
      unfold goodM
      rw [hd, decide_eq_false (fun e => this (i1.2 e))]
      simp
    · have hb1 : b = 1 ∨ b = 3 := Classical.byContradiction fun e => by rw [if_neg e] at h; exact absurd rfl h
      refine ldM3 hl ?_
      simp only [kSplit_b]
      refine ⟨fun hk => and2 ?_, fun hk => j1 _ _ (fun _ => i1.1 hb1) (fun h => by rw [hk] at h; cases h) rfl rfl⟩
      simp only [kBin_eql, kSplit_b, decide_eq_true_eq, decide_eq_false_iff_not]
      refine ⟨fun h => no _ (badK hk ((z2 b).1 h)), fun h => j1 _ _ (fun _ => i1.1 hb1) (fun _ => i2.1 (Classical.byContradiction fun e => absurd ((z2 b).2 e) h)) rfl rfl⟩
  · refine ldM3 hl ?_
    simp only [kSplit_b]
    refine ⟨fun hk => and2 ?_, fun hk => j1 _ _ (fun h => by rw [hd] at h; cases h) (fun h => by rw [hk] at h; cases h) rfl rfl⟩
    simp only [kBin_eql, kSplit_b, decide_eq_true_eq, decide_eq_false_iff_not]
    refine ⟨fun h => no _ (badK hk ((z2 b).1 h)), fun h => j1 _ _ (fun h => by rw [hd] at h; cases h) (fun _ => i2.1 (Classical.byContradiction fun e => absurd ((z2 b).2 e) h)) rfl rfl⟩
end Go.Proofs.Ytncodeibkmekmab.Gen

namespace Go.Proofs.Ytncodeibkmekmab.Gen
open Go Go.Proofs.Ytncodeibkmekmab.Abs Go.RowKit
variable {g : G} {n : Nat}
theorem newL {d : Ln} {K : Nat → G → Nat → Prop} (k : ∀ g2, Sub g g2 → g n = none → g2 n = some (.cells (encL d) .exact) → K n g2 (n + 1)) :
    kNew (encL zeroL) .exact g n fun l g1 n1 => kAgg (.agg (encL d).toArray) fun cg => cg.length = 8 ∧ kStN g1 l 0 cg fun g2 => K l g2 n1 := by
  intro hn
  simp only [kAgg_a]
  refine ⟨encL_len _, kStN_of (upd_same _ _ _) rfl (by rw [encL_len, encL_len]; decide) (encL_cell _) ?_⟩
  rw [splice_all (by rw [encL_len, encL_len])]
  exact k _ (((Sub.refl g).new hn _).upd_fresh _ hn) hn (upd_same _ _ _)
theorem stLn {l : Nat} {c d : Ln} {K : G → Prop} (h : g l = some (.cells (encL c) .exact)) (k : K (upd g l (some (.cells (encL d) .exact)))) : kStN g l 0 (encL d) K := by
  refine kStN_of h rfl (by rw [encL_len, encL_len]; decide) (encL_cell _) ?_
  rw [splice_all (by rw [encL_len, encL_len])]
  exact k
def dr (s : St) : Bool := decide (s.state = 3 ∨ s.state = 9)
def ansM (m : Ms) (s : St) (next : Int) : List Ms :=
  if m.kind = 12 then [⟨6, m.line, dr s, false, if dr s then s.data else zeroL⟩] else
  if m.kind = 13 then [⟨7, m.line, dr s, decide (next = 1), if dr s then s.data else zeroL⟩] else []
theorem answer_spec {m : Ms} {s : St} {next : Int} {K : Cont} (hK : ∀ v' g' n', Sub g g' → Sl encM 12 g' v' (ansM m s next) → (∀ l, blkOf v' = some l → g l = none) → K v' g' n') :
    AC agent_answer_id [.agg (encM m).toArray, .agg (encS s).toArray, .int .i64 next] g n K := by
  refine ACalls.fold X0_mono ?_
  rw [← agent_answer_eq]
  simp only [agent_answer, kAgg_a]
  intro hn
  have hs1 := (Sub.refl g).new hn (some (.cells (encM m) .exact))
  have hl3 := upd_same g n (some (.cells (encM m) .exact))
  generalize upd g n (some (.cells (encM m) .exact)) = g1 at *
  intro hn1
  have hs2 := (Sub.refl g1).new hn1 (some (.cells (encS s) .exact))
  have hl4 := upd_same g1 (n + 1) (some (.cells (encS s) .exact))
  generalize upd g1 (n + 1) (some (.cells (encS s) .exact)) = g2 at *
  refine ldM1 (hs2.live hl3) (kFill_m1 (newM (fun g4 hs4 hn7 hl7 => ?_)))
  have hsg := hs1.trans (hs2.trans hs4)
  have hn7g : g (n + 1 + 1) = none := (hs1.trans hs2).none hn7
  have hl4' := hs4.live hl4
  have j2 : ∀ (t : Env) (g5 : G) (n5 : Nat) (x : Ms), Sub g g5 → g5 (n + 1 + 1) = some (.cells (encM x) .exact) → ansM m s next = [x] → t 7 = ptr (n + 1 + 1) 0 → agent_answer_j2 AC K t g5 n5 := by
    intro t g5 n5 x hs5 hl hx t7
    simp only [agent_answer_j2, t7, kPtr_p]
    refine ldM hl (kFill_M ?_)
    intro hn6
    have hs6 := (Sub.refl g5).new hn6 (some (.cells (encM x) .exact))
    refine aRet_of (Sub.refl _) (hK _ _ _ (hs5.trans hs6) ?_ ?_)
    · rw [hx]; exact Sl.one (encM_len _) (upd_same _ _ _)
    · intro l hl; cases hl; exact hs5.none hn6
  have j1 : ∀ (t : Env) (g5 : G) (n5 : Nat) (x : Ms), Sub g g5 → g5 (n + 1) = some (.cells (encS s) .exact) → g5 (n + 1 + 1) = some (.cells (encM x) .exact) → x.dirty = false → x.data = zeroL →
      ansM m s next = [{ x with dirty := dr s, data := if dr s then s.data else zeroL }] → t 4 = ptr (n + 1) 0 → t 7 = ptr (n + 1 + 1) 0 → agent_answer_j1 AC K t g5 n5 := by
    intro t g5 n5 x hs5 h4 h7 hxd hxz hx t4 t7
    simp only [agent_answer_j1, t4, t7, kPtr_p]
    have yes : dr s = true → ∀ (t : Env) , t 7 = ptr (n + 1 + 1) 0 → agent_answer_j2 AC K t (upd (upd g5 (n + 1 + 1) (some (.cells ((encM x).set (0 + 2) (.bool true)) .exact))) (n + 1 + 1) (some (.cells (encM { { x with dirty := true } with data := s.data }) .exact))) n5 := by
      intro hd t t7
      refine j2 _ _ _ { { x with dirty := true } with data := s.data } ((hs5.upd_fresh _ hn7g).upd_fresh _ hn7g) (upd_same _ _ _) ?_ t7
      rw [hx, hd]; rfl
    have hne : n + 1 ≠ n + 1 + 1 := by omega
    refine ldS0 h4 ?_
    simp only [kBin_eql, kSplit_b, decide_eq_true_eq, decide_eq_false_iff_not]
    refine ⟨fun h3 => ?_, fun h3 => ldS0 h4 ?_⟩
    · refine ldSd h4 (kSt_of h7 rfl (by rw [encM_len]; decide) rfl ?_)
      refine ⟨upd_ne _ _ hne, encL_len _, ?_⟩
      refine stMd (m := { x with dirty := true }) (upd_same _ _ _) ?_
      exact yes (by unfold dr; rw [decide_eq_true_eq]; exact .inl h3) _ t7
    · simp only [kBin_eql, kSplit_b, decide_eq_true_eq, decide_eq_false_iff_not]
      refine ⟨fun h9 => ?_, fun h9 => ?_⟩
      · refine ldSd h4 (kSt_of h7 rfl (by rw [encM_len]; decide) rfl ?_)
        refine ⟨upd_ne _ _ hne, encL_len _, ?_⟩
        refine stMd (m := { x with dirty := true }) (upd_same _ _ _) ?_
        exact yes (by unfold dr; rw [decide_eq_true_eq]; exact .inr h9) _ t7
      · have hd : dr s = false := by unfold dr; rw [decide_eq_false_iff_not]; omega
        refine j2 _ _ _ x hs5 h7 ?_ t7
        rw [hx, hd]
        cases x
        simp only at hxd hxz
        subst hxd hxz
        rfl
  have hne1 : n + 1 ≠ n + 1 + 1 := by omega
  refine ldM0 (hs4.live (hs2.live hl3)) ?_
  simp only [kBin_eql, kSplit_b, decide_eq_true_eq, decide_eq_false_iff_not]
  refine ⟨fun h12 => ?_, fun h12 => ⟨fun h13 => ?_, fun h13 => ?_⟩⟩
  · refine kSt_of hl7 rfl (by rw [encM_len]; decide) rfl ?_
    refine j1 _ _ _ ⟨6, m.line, false, false, zeroL⟩ (hsg.upd_fresh _ hn7g) (by rw [upd_ne _ _ hne1]; exact hl4') (by rw [upd_same]; rfl) rfl rfl ?_ rfl rfl
    unfold ansM; rw [if_pos h12]
  · refine kSt_of hl7 rfl (by rw [encM_len]; decide) rfl ?_
    refine kSt_of (upd_same _ _ _) rfl (by simp [encM_len]) rfl ?_
    refine j1 _ _ _ ⟨7, m.line, false, decide (next = 1), zeroL⟩ ((hsg.upd_fresh _ hn7g).upd_fresh _ hn7g) (by rw [upd_ne _ _ hne1, upd_ne _ _ hne1]; exact hl4') (by rw [upd_same]; rfl) rfl rfl ?_ rfl rfl
    unfold ansM; rw [if_neg h12, if_pos h13]
  · have e : ansM m s next = [] := by unfold ansM; rw [if_neg h12, if_neg h13]
    rw [e] at hK
    exact aRet_of (Sub.refl _) (hK _ _ _ hsg Sl.nil (fun l hl => nomatch hl))

def hearD (m : Ms) (s : St) (next : Int) : Ln := if m.kind = 8 ∨ m.kind = 9 ∨ m.kind = 10 then m.data else if next = 5 ∨ next = 8 then zeroL else s.data
def Arr.hear (A : Arr) (m : Ms) : List Ms × Arr × Int :=
  if goodM m = false ∨ tellsB m.kind = false then ([], A, 1) else
  if turn m.kind (A.slot m.line).state = -1 then ([], A, 16) else
  if turn m.kind (A.slot m.line).state = -2 then ([], A, 0) else
  if turn m.kind (A.slot m.line).state = 0 then (ansM m (A.slot m.line) 0, A.drop m.line, 0) else
  (ansM m (A.slot m.line) (turn m.kind (A.slot m.line).state), (A.set m.line (turn m.kind (A.slot m.line).state) (hearD m (A.slot m.line) (turn m.kind (A.slot m.line).state))).2, 0)
theorem slot_state {A : Arr} (hok : A.ok) (hw : A.wf) (line : Int) : 0 ≤ (A.slot line).state ∧ (A.slot line).state ≤ 9 := by
  unfold Arr.slot Arr.find
  cases ha : A.at line with
  | none => exact ⟨by show (0 : Int) ≤ 0; decide, by show (0 : Int) ≤ 9; decide⟩
  | some k =>
    obtain ⟨t, ht, ht0, _, hst⟩ := Arr.at_some hok ha
    have := hw.place _ _ ht ht0
    show 0 ≤ (A.slotAt line k).state ∧ (A.slotAt line k).state ≤ 9
    rw [hst]; omega
theorem Hear_spec {A : Arr} {lg la ls : Nat} {m : Ms} (hok : A.ok) (hw : A.wf) (hu : A.used < 100000) (hh : AgH g lg la ls A) {K : Cont}
    (hK : ∀ v' g' n', Out g g' lg la ls (A.hear m).2.1 v' (A.hear m).1 → K (.tuple #[v', .int .i64 (A.hear m).2.2]) g' n') :
    AC agent_Agent_Hear_id [ptr lg 0, .agg (encM m).toArray] g n K := by
  refine ACalls.fold X0_mono ?_
  rw [← agent_Agent_Hear_eq]
  simp only [agent_Agent_Hear, kAgg_a]
  intro hn
  have hs1 := (Sub.refl g).new hn (some (.cells (encM m) .exact))
  have hl3 := upd_same g n (some (.cells (encM m) .exact))
  generalize upd g n (some (.cells (encM m) .exact)) = g1 at *
  have hh1 := hh.mono hs1
  simp only [kBin_p_eql]
  refine kSplit_f rfl (ldM hl3 (Good_spec (fun n2 => ?_)))
  simp only [kUn_not, kSplit_b, Bool.not_eq_true', Bool.not_eq_false']
  refine ⟨fun hg => ?_, fun hg => ldM0 hl3 (Tells_spec (fun n3 => ?_))⟩
  · have e : A.hear m = ([], A, 1) := by unfold Arr.hear; rw [if_pos (.inl hg)]
    rw [e] at hK
    exact aRet_of (Sub.refl _) (hK _ _ _ ((Out.nil hh1).of hs1))
  simp only [kUn_not, kSplit_b, Bool.not_eq_true', Bool.not_eq_false']
  refine ⟨fun ht => ?_, fun ht => ldM1 hl3 (find_spec hok hh1 (fun n4 => newS (s := A.slot m.line) (fun g6 hs6 hn6 hl6 => ?_)))⟩
  · have e : A.hear m = ([], A, 1) := by unfold Arr.hear; rw [if_pos (.inr ht)]
    rw [e] at hK
    exact aRet_of (Sub.refl _) (hK _ _ _ ((Out.nil hh1).of hs1))
  have hc : ¬ (goodM m = false ∨ tellsB m.kind = false) := by rw [hg, ht]; decide
  have hst := slot_state hok hw m.line
  have hkd : 8 ≤ m.kind ∧ m.kind ≤ 14 := of_decide_eq_true (show tellsB m.kind = true from ht)
  unfold Arr.hear at hK
  rw [if_neg hc] at hK
  generalize A.slot m.line = s at *
  refine ldM0 (hs6.live hl3) (ldS0 hl6 (turns_spec (fun n7 => ⟨rfl, rfl, ?_⟩)))
  have hidx := turn_get ⟨m.kind.toNat, by omega⟩ ⟨s.state.toNat, by omega⟩
  simp only at hidx
  rw [show ((m.kind.toNat : Nat) : Int) = m.kind by omega, show ((s.state.toNat : Nat) : Int) = s.state by omega] at hidx
  generalize turn m.kind s.state = next at *
  simp only [kIdx, kAgg_a, kInt_i, kPart]
  refine ⟨by omega, by omega, hidx.2, by omega, by omega, kGet_of (by rw [Nat.mul_one]; exact hidx.1) ?_⟩
  have hsg := hs1.trans hs6
  refine ldSd hl6 (newL (fun g9 hs9 hn8 hl8 => ?_))
  have hs9g := hsg.trans hs9
  have hl3' := hs9.live (hs6.live hl3)
  have hl6' := hs9.live hl6
  have hh9 := hh.mono hs9g
  have hn8g : g n7 = none := hsg.none hn8
  have h36 : n ≠ n4 := ne_of_live (hl3) hn6 |> fun h => fun e => h e.symm
  have h38 : n ≠ n7 := fun e => by rw [← e] at hn8; rw [hs6.live hl3] at hn8; cases hn8
  have h68 : n4 ≠ n7 := fun e => by rw [← e] at hn8; rw [hl6] at hn8; cases hn8
  have ap3 := And.intro (ne_of_live hh.arr.obj hn) (ne_of_live hh.arr.row hn)
  have ap6 := And.intro (ne_of_live hh1.arr.obj hn6) (ne_of_live hh1.arr.row hn6)
  have j4 : ∀ (t : Env) (g10 : G) (n10 : Nat), ¬ next = -1 → ¬ next = -2 → ¬ next = 0 → Sub g g10 → g10 n = some (.cells (encM m) .exact) → g10 n4 = some (.cells (encS s) .exact) → g10 n7 = some (.cells (encL (hearD m s next)) .exact) →
      t 0 = ptr lg 0 → t 3 = ptr n 0 → t 6 = ptr n4 0 → t 7 = .int .i64 next → t 8 = ptr n7 0 → agent_Agent_Hear_j4 AC K t g10 n10 := by
    intro t g10 n10 c1 c2 c3 hs10 hl3 hl6 hl8 t0 t3 t6 t7 t8
    rw [if_neg c1, if_neg c2, if_neg c3] at hK
    have hh10 := hh.mono hs10
    simp only [agent_Agent_Hear_j4, t0, t3, t6, t7, t8, kNil_p, kPtr_p]
    refine ldA hh10 (ldM1 hl3 (ldL hl8 ?_))
    refine Set_spec (d := hearD m s next) hok hu hh10.arr (fun g11 n11 hs11 hh11 => ?_)
    refine ldM (hs11.live (hide_live ap3.1 ap3.2 hl3)) (ldS (x := s) (hs11.live (hide_live ap6.1 ap6.2 hl6)) ?_)
    refine answer_spec (fun v' g' n' hs' hsl hfr => aRet_of (Sub.refl _) (hK _ _ _ ?_))
    refine ⟨((hide_mono hs10).trans hs11).trans hs', (hh10.next hs11 hh11).mono hs', hsl, fun l hl => ?_⟩
    have h1 := hfr l hl
    cases hgl : g l with
    | none => rfl
    | some b =>
      have n1 := ne_of_live hh11.obj h1
      have n2 := ne_of_live hh11.row h1
      have := hs11.live (hide_live n1 n2 (hs10.live hgl))
      rw [h1] at this; cases this
  have j3 : ∀ (t : Env) (g10 : G) (n10 : Nat) (c : Ln), ¬ next = -1 → ¬ next = -2 → ¬ next = 0 → Sub g g10 → g10 n = some (.cells (encM m) .exact) → g10 n4 = some (.cells (encS s) .exact) → g10 n7 = some (.cells (encL c) .exact) →
      (c = if next = 5 ∨ next = 8 then zeroL else s.data) → t 59 = .bool (decide (m.kind = 8 ∨ m.kind = 9 ∨ m.kind = 10)) → t 0 = ptr lg 0 → t 3 = ptr n 0 → t 6 = ptr n4 0 → t 7 = .int .i64 next → t 8 = ptr n7 0 → agent_Agent_Hear_j3 AC K t g10 n10 := by
    intro t g10 n10 c c1 c2 c3 hs10 hl3 hl6 hl8 hcc t59 t0 t3 t6 t7 t8
    simp only [agent_Agent_Hear_j3, t59, t3, t8, kSplit_b, decide_eq_true_eq, decide_eq_false_iff_not, kPtr_p]
    refine ⟨fun hk => ?_, fun hk => ?_⟩
    · refine ldMd hl3 ?_
      simp only [kAgg_a]
      refine ⟨encL_len _, stLn hl8 ?_⟩
      refine j4 _ _ _ c1 c2 c3 (hs10.upd_fresh _ hn8g) (by rw [upd_ne _ _ h38]; exact hl3) (by rw [upd_ne _ _ h68]; exact hl6) ?_ t0 t3 t6 t7 t8
      rw [upd_same]; unfold hearD; rw [if_pos hk]
    · refine j4 _ _ _ c1 c2 c3 hs10 hl3 hl6 ?_ t0 t3 t6 t7 t8
      rw [hl8]; unfold hearD; rw [if_neg hk, hcc]
  have j2 : ∀ (t : Env) (g10 : G) (n10 : Nat) (c : Ln), ¬ next = -1 → ¬ next = -2 → ¬ next = 0 → Sub g g10 → g10 n = some (.cells (encM m) .exact) → g10 n4 = some (.cells (encS s) .exact) → g10 n7 = some (.cells (encL c) .exact) →
      (c = if next = 5 ∨ next = 8 then zeroL else s.data) → t 0 = ptr lg 0 → t 3 = ptr n 0 → t 6 = ptr n4 0 → t 7 = .int .i64 next → t 8 = ptr n7 0 → agent_Agent_Hear_j2 AC K t g10 n10 := by
    intro t g10 n10 c c1 c2 c3 hs10 hl3 hl6 hl8 hcc t0 t3 t6 t7 t8
    simp only [agent_Agent_Hear_j2, t3, kPtr_p]
    refine ldM0 hl3 ?_
    simp only [kBin_eql, kSplit_b, decide_eq_true_eq, decide_eq_false_iff_not]
    have hb : ∀ {p : Prop} [Decidable p], (p ↔ (m.kind = 8 ∨ m.kind = 9 ∨ m.kind = 10)) → Value.bool (decide p) = .bool (decide (m.kind = 8 ∨ m.kind = 9 ∨ m.kind = 10)) := fun h => by congr 1; rw [decide_eq_decide]; exact h
    refine ⟨fun h8 => j3 _ _ _ c c1 c2 c3 hs10 hl3 hl6 hl8 hcc ?_ t0 t3 t6 t7 t8, fun h8 => ⟨fun h9 => j3 _ _ _ c c1 c2 c3 hs10 hl3 hl6 hl8 hcc ?_ t0 t3 t6 t7 t8, fun h9 => j3 _ _ _ c c1 c2 c3 hs10 hl3 hl6 hl8 hcc ?_ t0 t3 t6 t7 t8⟩⟩
    · exact hb (by omega)
    · exact hb (by omega)
    · exact hb (by omega)
  have j1 : ∀ (t : Env) (n10 : Nat), ¬ next = -1 → ¬ next = -2 → ¬ next = 0 → t 53 = .bool (decide (next = 5 ∨ next = 8)) → t 0 = ptr lg 0 → t 3 = ptr n 0 → t 6 = ptr n4 0 → t 7 = .int .i64 next → t 8 = ptr n7 0 → agent_Agent_Hear_j1 AC K t g9 n10 := by
    intro t n10 c1 c2 c3 t53 t0 t3 t6 t7 t8
    simp only [agent_Agent_Hear_j1, t53, t8, kSplit_b, decide_eq_true_eq, decide_eq_false_iff_not, kFill_nil, kPtr_p, kAgg_a]
    refine ⟨fun h5 => ⟨rfl, stLn (d := zeroL) hl8 ?_⟩, fun h5 => ?_⟩
    · exact j2 _ _ _ zeroL c1 c2 c3 (hs9g.upd_fresh _ hn8g) (by rw [upd_ne _ _ h38]; exact hl3') (by rw [upd_ne _ _ h68]; exact hl6') (upd_same _ _ _) (by rw [if_pos h5]) t0 t3 t6 t7 t8
    · exact j2 _ _ _ s.data c1 c2 c3 hs9g hl3' hl6' hl8 (by rw [if_neg h5]) t0 t3 t6 t7 t8
  simp only [kBin_eql, kSplit_b, decide_eq_true_eq, decide_eq_false_iff_not]
  refine ⟨fun c1 => ?_, fun c1 => ⟨fun c2 => ?_, fun c2 => ⟨fun c3 => ?_, fun c3 => ?_⟩⟩⟩
  · rw [if_pos c1] at hK
    exact aRet_of (Sub.refl _) (hK _ _ _ ((Out.nil hh9).of hs9g))
  · rw [if_neg c1, if_pos c2] at hK
    exact aRet_of (Sub.refl _) (hK _ _ _ ((Out.nil hh9).of hs9g))
  · rw [if_neg c1, if_neg c2, if_pos c3] at hK
    subst c3
    simp only [kNil_p, kPtr_p]
    refine ldA hh9 (ldM1 hl3' ?_)
    refine Drop_spec hok hh9.arr (fun g10 n10 hs10 hh10 => ?_)
    refine ldM (hs10.live (hide_live ap3.1 ap3.2 hl3')) (ldS (x := s) (hs10.live (hide_live ap6.1 ap6.2 hl6')) ?_)
    refine answer_spec (fun v' g' n' hs' hsl hfr => aRet_of (Sub.refl _) (hK _ _ _ ?_))
    refine ⟨((hide_mono hs9g).trans hs10).trans hs', (hh9.next hs10 hh10).mono hs', hsl, fun l hl => ?_⟩
    have h1 := hfr l hl
    cases hgl : g l with
    | none => rfl
    | some b =>
      have n1 := ne_of_live hh10.obj h1
      have n2 := ne_of_live hh10.row h1
      have := hs10.live (hide_live n1 n2 (hs9g.live hgl))
      rw [h1] at this; cases this
  · refine ⟨fun h5 => j1 _ _ c1 c2 c3 ?_ rfl rfl rfl rfl rfl, fun h5 => j1 _ _ c1 c2 c3 ?_ rfl rfl rfl rfl rfl⟩
    · show Value.bool (decide (next = 5)) = _
      congr 1; rw [decide_eq_decide]; omega
    · show Value.bool (decide (next = 8)) = _
      congr 1; rw [decide_eq_decide]; omega

def Arr.evict (A : Arr) (line : Int) : List Ms × Arr × Int :=
  if A.idle = false then ([], A, 15) else if (A.slot line).state = 0 then ([], A, 14) else ((A.out (A.slot line)).1, (A.out (A.slot line)).2, 0)
theorem Evict_spec {A : Arr} {lg la ls : Nat} {line : Int} (hok : A.ok) (hu : A.used < 100000) (hh : AgH g lg la ls A) {K : Cont}
    (hK : ∀ v' g' n', Out g g' lg la ls (A.evict line).2.1 v' (A.evict line).1 → K (.tuple #[v', .int .i64 (A.evict line).2.2]) g' n') :
    AC agent_Agent_Evict_id [ptr lg 0, .int .i64 line] g n K := by
  refine ACalls.fold X0_mono ?_
  rw [← agent_Agent_Evict_eq]
  simp only [agent_Agent_Evict, kBin_p_eql]
  refine kSplit_f rfl (Idle_spec hok hh (fun n1 => ?_))
  simp only [kUn_not, kSplit_b, Bool.not_eq_true', Bool.not_eq_false']
  refine ⟨fun hi => ?_, fun hi => find_spec hok hh (fun n2 => newS (s := A.slot line) (fun g4 hs4 hn4 hl => ldS0 hl ?_))⟩
  · have e : A.evict line = ([], A, 15) := by unfold Arr.evict; rw [if_pos hi]
    rw [e] at hK
    exact aRet_of (Sub.refl _) (hK _ _ _ (Out.nil hh))
  have hi' : ¬ A.idle = false := by rw [hi]; decide
  have hh4 := hh.mono hs4
  simp only [kBin_eql, kSplit_b, decide_eq_true_eq, decide_eq_false_iff_not]
  refine ⟨fun h0 => ?_, fun h0 => ldS (x := A.slot line) hl ?_⟩
  · have e : A.evict line = ([], A, 14) := by unfold Arr.evict; rw [if_neg hi', if_pos h0]
    rw [e] at hK
    exact aRet_of (Sub.refl _) (hK _ _ _ ((Out.nil hh4).of hs4))
  · have e : A.evict line = ((A.out (A.slot line)).1, (A.out (A.slot line)).2, 0) := by unfold Arr.evict; rw [if_neg hi', if_neg h0]
    rw [e] at hK
    exact out_spec hok hu hh4 (fun v' g' n' ho => aRet_of (Sub.refl _) (hK _ _ _ (ho.of hs4)))
theorem AgNew_spec {s w : Int} {K : Cont} (hgood : goodA s w) (hK : ∀ lg la ls g' n', Sub g g' → g lg = none → g la = none → g ls = none → AgH g' lg la ls (arr0 s.toNat w.toNat) → K (.tuple #[ptr lg 0, .int .i64 0]) g' n') : AC agent_New_id [.int .i64 s, .int .i64 w] g n K := by
  refine ACalls.fold X0_mono ?_
  rw [← agent_New_eq]
  simp only [agent_New]
  refine New_spec (fun h => absurd hgood h) (fun _ la ls g1 n1 hs1 hla hls hh => ?_)
  simp only [kExtract_t, kGet_zero, kGet_succ, kBin_neq]
  refine kSplit_f (by simp) ?_
  refine ⟨rfl, by simp, ?_⟩
  simp only [kFill_nil, kAgg_a]
  intro hn
  have hs2 := (Sub.refl g1).new hn (some (.cells [ptr la 0] .exact))
  exact aRet_of (Sub.refl _) (hK _ _ _ _ _ (hs1.trans hs2) (hs1.none hn) hla hls ⟨upd_same _ _ _, hh.mono hs2, ne_of_live hh.obj hn, ne_of_live hh.row hn⟩)
end Go.Proofs.Ytncodeibkmekmab.Gen

namespace Go.Proofs.Ytncodeibkmekmab.Gen
open Go Go.Proofs.Ytncodeibkmekmab.Abs Go.RowKit
variable {g : G} {n : Nat}
theorem wakes08_spec {K : Cont} (hK : ∀ n', K (.bool true) g n') : AC bellowslaw08_wakes_id [] g n K :=
  AC_ev (.bool true) 1000 100 (by kernel_rfl) (by kernel_rfl) (by kernel_rfl) hK
/-- a good array, with at most so many numbers -/
structure Gd (A : Arr) (k : Nat) : Prop where
  ok : A.ok
  wf : A.wf
  used : A.used ≤ k
theorem Gd.le {A : Arr} {k k' : Nat} (h : Gd A k) (hk : k ≤ k') : Gd A k' := ⟨h.ok, h.wf, by have := h.used; omega⟩
theorem Gd.set {A : Arr} {k : Nat} (h : Gd A k) (hk : k < 100000) (line state : Int) (d : Ln) : Gd (A.set line state d).2 (k + 1) :=
  ⟨Arr.set_ok h.ok (by have := h.used; omega) _ _ _, Arr.set_wf h.ok h.wf _ _ _, by have := h.used; have := (Arr.set_used A line state d).2; omega⟩
theorem Gd.touch {A : Arr} {k : Nat} (h : Gd A k) (hk : k < 100000) (line : Int) : Gd (A.touch line) (k + 1) :=
  ⟨Arr.touch_ok h.ok (by have := h.used; omega) _, Arr.touch_wf h.ok h.wf _, by have := h.used; have := (Arr.touch_used A line).2; omega⟩
theorem Gd.drop {A : Arr} {k : Nat} (h : Gd A k) (line : Int) : Gd (A.drop line) k :=
  ⟨Arr.drop_ok h.ok _, Arr.drop_wf h.wf _, by rw [Arr.drop_used]; exact h.used⟩
theorem Gd.out {A : Arr} {k : Nat} (h : Gd A k) (hk : k < 100000) (s : St) : Gd (A.out s).2 (k + 1) := h.set hk _ _ _
theorem Gd.ask {A : Arr} {k : Nat} (h : Gd A k) (hk : k < 100000) (line state kind : Int) (d : Ln) : Gd (A.ask line state kind d).2 (k + 1) := by
  unfold Arr.ask
  split
  · exact h.le (by omega)
  · split
    · split
      · exact h.le (by omega)
      · exact h.out hk _
    · exact h.set hk _ _ _
theorem Gd.load {A : Arr} {k : Nat} (h : Gd A k) (hk : k < 100000) (line word : Int) : Gd (A.load line word).2 (k + 1) := by
  unfold Arr.load
  split
  · exact h.le (by omega)
  · split
    · exact h.touch hk _
    · exact h.ask hk _ _ _ _
theorem Gd.reach {A : Arr} {k : Nat} (h : Gd A k) (hk : k < 100000) (line : Int) : Gd (A.reach line).2 (k + 1) := by
  unfold Arr.reach
  split
  · exact h.le (by omega)
  · split
    · exact h.ask hk _ _ _ _
    · exact h.ask hk _ _ _ _
theorem Gd.store {A : Arr} {k : Nat} (h : Gd A k) (hk : k < 100000) (line word v : Int) : Gd (A.store line word v).2 (k + 1) := by
  unfold Arr.store
  split
  · exact h.le (by omega)
  · split
    · exact h.reach hk _
    · exact h.set hk _ _ _
theorem Gd.hear {A : Arr} {k : Nat} (h : Gd A k) (hk : k < 100000) (m : Ms) : Gd (A.hear m).2.1 (k + 1) := by
  unfold Arr.hear
  split
  · exact h.le (by omega)
  · split
    · exact h.le (by omega)
    · split
      · exact h.le (by omega)
      · split
        · exact (h.drop _).le (by omega)
        · exact h.set hk _ _ _
theorem Gd.evict {A : Arr} {k : Nat} (h : Gd A k) (hk : k < 100000) (line : Int) : Gd (A.evict line).2.1 (k + 1) := by
  unfold Arr.evict
  split
  · exact h.le (by omega)
  · split
    · exact h.le (by omega)
    · exact h.out hk _
theorem gd0 {s w : Nat} (hs : s = 1 ∨ s = 2 ∨ s = 4 ∨ s = 8) (h1 : 1 ≤ w) (h2 : w ≤ 8) : Gd (arr0 s w) 0 := ⟨arr0_ok hs h1 h2, arr0_wf s w, Int.le_refl _⟩
/-- what stays known along a run -/
structure Run (g0 g : G) (lg la ls : Nat) (A : Arr) (k : Nat) : Prop where
  hs : Sub g0 g
  ag : AgH g lg la ls A
  gd : Gd A k
theorem Run.next {g0 g g' : G} {lg la ls : Nat} {A A' : Arr} {k k' : Nat} {v : Value} {ms : List Ms} (h : Run g0 g lg la ls A k) (hla : g0 la = none) (hls : g0 ls = none) (ho : Out g g' lg la ls A' v ms) (hg : Gd A' k') : Run g0 g' lg la ls A' k' :=
  ⟨(h.hs.hide hla hls).trans ho.hs, ho.ag, hg⟩
theorem kFill_md {a b : Int} {d : Ln} {K : List Value → Prop} (k : K (encM ⟨a, b, false, false, d⟩)) : kFill (encM zeroM) [(0, none, .int .i64 a), (1, none, .int .i64 b), (4, some 8, .agg (encL d).toArray)] K := by
  refine ⟨rfl, by rw [encM_len]; decide, rfl, by rw [List.length_set, encM_len]; decide, ?_⟩
  refine ⟨encL_len d, by simp [encM_len], ?_⟩
  have : splice (((encM zeroM).set 0 (.int .i64 a)).set 1 (.int .i64 b)) 4 (encL d) = encM ⟨a, b, false, false, d⟩ := by
    unfold splice
    rw [encL_len]
    show [_, _, _, _] ++ encL d ++ (encL zeroL).drop 8 = _
    rw [List.drop_of_length_le (by rw [encL_len]; exact Nat.le_refl _), List.append_nil]; rfl
  rw [this]; exact k
theorem ldWord {l : Nat} {d : Ln} {w : Int} {K : Value → Prop} (hw : 0 ≤ w ∧ w < 8) (h : g l = some (.cells (encL d) .exact)) (k : K (.int .u64 (wordAt d w))) :
    kIndexArr (ptr l 0) (.int .i64 w) 8 1 fun p => kPtr p fun l' o => kLd g l' o K := by
  refine ⟨hw.1, hw.2, ?_⟩
  simp only [kPtr_p]
  refine kLd_of h ?_ k
  have h3 := d.2
  unfold encL wordAt
  rw [show 0 + w.toNat * 1 = w.toNat by omega, List.getElem?_map, List.getElem?_eq_getElem (by omega), List.getD_eq_getElem?_getD, List.getElem?_eq_getElem (by omega)]
  rfl
theorem isW3 {a w : Int} (ha : 0 ≤ a ∧ a < 64) (hw : 0 ≤ w ∧ w < 8) : isW a w = true := by unfold isW; rw [decide_eq_true_eq]; omega
end Go.Proofs.Ytncodeibkmekmab.Gen

namespace Go.Proofs.Ytncodeibkmekmab.Gen
open Go Go.Proofs.Ytncodeibkmekmab.Abs Go.RowKit
variable {g : G} {n : Nat}
section
variable {g0 : G} {lg la ls k : Nat} {A A' : Arr} {K : Cont}
theorem Run.load (r : Run g0 g lg la ls A k) (hla : g0 la = none) (hls : g0 ls = none) (hk : k < 100000) {line word v : Int} {h : Bool} {ms : List Ms} (e : A.load line word = (ms, A')) (eh : A.loadHit line word = h) (ev : A.loadV line word = v)
    (kk : ∀ v' g' n', Run g0 g' lg la ls A' (k + 1) → Out g g' lg la ls A' v' ms → K (.tuple #[.int .u64 v, .bool h, v']) g' n') : AC agent_Agent_Load_id [ptr lg 0, .int .i64 line, .int .i64 word] g n K := by
  refine Load_spec r.gd.ok (by have := r.gd.used; omega) r.ag (fun v' g' n' o => ?_)
  have r1 := r.next hla hls o (r.gd.load hk line word)
  rw [e] at r1 o
  rw [eh, ev]
  exact kk _ _ _ r1 o
theorem Run.store (r : Run g0 g lg la ls A k) (hla : g0 la = none) (hls : g0 ls = none) (hk : k < 100000) {line word v : Int} {h : Bool} {ms : List Ms} (e : A.store line word v = (ms, A')) (eh : A.storeHit line word = h)
    (kk : ∀ v' g' n', Run g0 g' lg la ls A' (k + 1) → Out g g' lg la ls A' v' ms → K (.tuple #[.bool h, v']) g' n') : AC agent_Agent_Store_id [ptr lg 0, .int .i64 line, .int .i64 word, .int .u64 v] g n K := by
  refine Store_spec r.gd.ok (by have := r.gd.used; omega) r.ag (fun v' g' n' o => ?_)
  have r1 := r.next hla hls o (r.gd.store hk line word v)
  rw [e] at r1 o
  rw [eh]
  exact kk _ _ _ r1 o
theorem Run.hear (r : Run g0 g lg la ls A k) (hla : g0 la = none) (hls : g0 ls = none) (hk : k < 100000) {m : Ms} {f : Int} {ms : List Ms} (e : A.hear m = (ms, A', f))
    (kk : ∀ v' g' n', Run g0 g' lg la ls A' (k + 1) → Out g g' lg la ls A' v' ms → K (.tuple #[v', .int .i64 f]) g' n') : AC agent_Agent_Hear_id [ptr lg 0, .agg (encM m).toArray] g n K := by
  refine Hear_spec r.gd.ok r.gd.wf (by have := r.gd.used; omega) r.ag (fun v' g' n' o => ?_)
  have r1 := r.next hla hls o (r.gd.hear hk m)
  rw [e] at r1 o
  rw [e]
  exact kk _ _ _ r1 o
theorem Run.evict (r : Run g0 g lg la ls A k) (hla : g0 la = none) (hls : g0 ls = none) (hk : k < 100000) {line f : Int} {ms : List Ms} (e : A.evict line = (ms, A', f))
    (kk : ∀ v' g' n', Run g0 g' lg la ls A' (k + 1) → Out g g' lg la ls A' v' ms → K (.tuple #[v', .int .i64 f]) g' n') : AC agent_Agent_Evict_id [ptr lg 0, .int .i64 line] g n K := by
  refine Evict_spec r.gd.ok (by have := r.gd.used; omega) r.ag (fun v' g' n' o => ?_)
  have r1 := r.next hla hls o (r.gd.evict hk line)
  rw [e] at r1 o
  rw [e]
  exact kk _ _ _ r1 o
theorem Run.reach (r : Run g0 g lg la ls A k) (hla : g0 la = none) (hls : g0 ls = none) (hk : k < 100000) {line : Int} {ms : List Ms} (e : A.reach line = (ms, A'))
    (kk : ∀ v' g' n', Run g0 g' lg la ls A' (k + 1) → Out g g' lg la ls A' v' ms → K v' g' n') : AC agent_Agent_Reach_id [ptr lg 0, .int .i64 line] g n K := by
  refine Reach_spec r.gd.ok (by have := r.gd.used; omega) r.ag (fun v' g' n' o => ?_)
  have r1 := r.next hla hls o (r.gd.reach hk line)
  rw [e] at r1 o
  exact kk _ _ _ r1 o
theorem Run.mono {g' : G} (r : Run g0 g lg la ls A k) (hs : Sub g g') : Run g0 g' lg la ls A k := ⟨r.hs.trans hs, r.ag.mono hs, r.gd⟩
end
section
variable {v : Int} {d : Bool}
def rmP (v : Int) : Ln := zeroL.put 0 v
def rm0 (d : Bool) (v : Int) : St := if d then ⟨3, 0, rmP v, 3⟩ else ⟨2, 0, zeroL, 2⟩
def rmU (d : Bool) : Int := if d then 3 else 2
def rm1 (d : Bool) (v : Int) : Arr := ⟨1, 2, [rm0 d v, zeroS], rmU d⟩
def rm2 (d : Bool) (v : Int) : Arr := ⟨1, 2, [rm0 d v, ⟨3, 1, rmP v, rmU d + 3⟩], rmU d + 3⟩
def rm3 (v : Int) : Arr := ⟨1, 2, [⟨2, 0, zeroL, 2⟩, ⟨3, 1, rmP v, 6⟩], 6⟩
def rm4 (d : Bool) (v : Int) : Arr := ⟨1, 2, [rm0 d v, ⟨3, 1, rmP v, 6⟩], 6⟩
def rmO (d : Bool) (v : Int) : Ms := ⟨3, 0, d, false, if d then rmP v else zeroL⟩
def rm5 (d : Bool) (v : Int) : Arr := ⟨1, 2, [if d then ⟨9, 0, rmP v, 7⟩ else ⟨7, 0, zeroL, 7⟩, ⟨3, 1, rmP v, 6⟩], 7⟩
def rm6 (v : Int) : Arr := ⟨1, 2, [zeroS, ⟨3, 1, rmP v, 6⟩], 7⟩
def rm7 (v : Int) : Arr := ⟨1, 2, [⟨4, 5, zeroL, 8⟩, ⟨3, 1, rmP v, 6⟩], 8⟩
theorem rmA1 : (arr0 1 2).store 0 0 v = ([⟨2, 0, false, false, zeroL⟩], ⟨1, 2, [⟨5, 0, zeroL, 1⟩, zeroS], 1⟩) ∧ (arr0 1 2).storeHit 0 0 = false := ⟨by kernel_rfl, by kernel_rfl⟩
theorem rmA2 : (⟨1, 2, [⟨5, 0, zeroL, 1⟩, zeroS], 1⟩ : Arr).hear ⟨10, 0, false, false, zeroL⟩ = ([], ⟨1, 2, [⟨2, 0, zeroL, 2⟩, zeroS], 2⟩, 0) := by kernel_rfl
theorem rmA3 : (⟨1, 2, [⟨2, 0, zeroL, 2⟩, zeroS], 2⟩ : Arr).store 0 0 v = ([], rm1 true v) ∧ (⟨1, 2, [⟨2, 0, zeroL, 2⟩, zeroS], 2⟩ : Arr).storeHit 0 0 = true := ⟨by kernel_rfl, by kernel_rfl⟩
theorem rmB1 : (rm1 d v).store 1 0 v = ([⟨2, 1, false, false, zeroL⟩], ⟨1, 2, [rm0 d v, ⟨5, 1, zeroL, rmU d + 1⟩], rmU d + 1⟩) ∧ (rm1 d v).storeHit 1 0 = false := by cases d <;> exact ⟨by kernel_rfl, by kernel_rfl⟩
theorem rmB2 : (⟨1, 2, [rm0 d v, ⟨5, 1, zeroL, rmU d + 1⟩], rmU d + 1⟩ : Arr).hear ⟨10, 1, false, false, zeroL⟩ = ([], ⟨1, 2, [rm0 d v, ⟨2, 1, zeroL, rmU d + 2⟩], rmU d + 2⟩, 0) := by cases d <;> kernel_rfl
theorem rmB3 : (⟨1, 2, [rm0 d v, ⟨2, 1, zeroL, rmU d + 2⟩], rmU d + 2⟩ : Arr).store 1 0 v = ([], rm2 d v) ∧ (⟨1, 2, [rm0 d v, ⟨2, 1, zeroL, rmU d + 2⟩], rmU d + 2⟩ : Arr).storeHit 1 0 = true := by cases d <;> exact ⟨by kernel_rfl, by kernel_rfl⟩
theorem rmC : (rm2 false v).load 1 0 = ([], rm4 false v) := by kernel_rfl
theorem rmC' : rm2 true v = rm4 true v := by kernel_rfl
theorem rmD : (rm4 d v).load 5 0 = ([rmO d v], rm5 d v) ∧ (rm4 d v).loadHit 5 0 = false := by cases d <;> exact ⟨by kernel_rfl, by kernel_rfl⟩
theorem rmE : (rm5 d v).load 5 0 = ([], rm5 d v) ∧ (rm5 d v).loadHit 5 0 = false := by cases d <;> exact ⟨by kernel_rfl, by kernel_rfl⟩
theorem rmF : (rm5 d v).hear ⟨11, 0, false, false, zeroL⟩ = ([], rm6 v, 0) := by cases d <;> kernel_rfl
theorem rmG : (rm6 v).load 5 0 = ([⟨1, 5, false, false, zeroL⟩], rm7 v) ∧ (rm6 v).loadHit 5 0 = false := ⟨by kernel_rfl, by kernel_rfl⟩
theorem rmH : (rm7 v).slots.length = 2 := by kernel_rfl
variable {g0 : G} {lg la ls k : Nat} {K : Cont}
theorem Room_j4 (hK : ∀ n', K (.bool true) g0 n') (hla : g0 la = none) (hls : g0 ls = none) (r : Run g0 g lg la ls (rm4 d v) k) (hk : k < 1000) {t : Env} (t0 : t 0 = .int .u64 v) (t1 : t 1 = .bool d) (t5 : t 5 = ptr lg 0) : bellowslaw08_AgentRoom_j4 AC K t g n := by
  simp only [bellowslaw08_AgentRoom_j4, t0, t1, t5]
  refine r.load hla hls (by omega) rmD.1 rmD.2 rfl (fun v1 g1 n1 r1 o1 => ?_)
  simp only [kExtract_t, kGet_zero, kGet_succ]
  refine kSplit_f rfl (o1.sl.len ?_)
  simp only [kBin_neq]
  refine kSplit_f (by simp) (o1.sl.idx (j := 0) encM_len rfl (fun l o hat => ?_))
  simp only [kPtr_p]
  refine hat.ld (i := 0) (v := .int .i64 3) rfl ?_
  simp only [kBin_neq]
  refine kSplit_f (by simp) (o1.sl.idx (j := 0) encM_len rfl (fun l o hat => ?_))
  simp only [kPtr_p]
  refine hat.ld (i := 1) (v := .int .i64 0) rfl ?_
  simp only [kBin_neq]
  refine kSplit_f (by simp) (o1.sl.idx (j := 0) encM_len rfl (fun l o hat => ?_))
  simp only [kPtr_p]
  refine hat.ld (i := 2) (v := .bool d) rfl ?_
  simp only [kBin_bneq]
  refine kSplit_f (by simp) ?_
  cases d with
  | true =>
    refine kSplit_t rfl (o1.sl.idx (j := 0) encM_len rfl (fun l o hat => ?_))
    simp only [kPtr_p]
    refine ⟨by decide, by decide, ?_⟩
    simp only [kPtr_p]
    refine hat.ld (i := 4) (v := .int .u64 v) rfl ?_
    simp only [kBin_neq]
    refine kSplit_f (by simp) ?_
    refine r1.load hla hls (by omega) rmE.1 rmE.2 rfl (fun v2 g2 n2 r2 o2 => ?_)
    simp only [kExtract_t, kGet_zero, kGet_succ]
    refine kSplit_f rfl (o2.sl.len ?_)
    simp only [kBin_neq]
    refine kSplit_f (by simp) (kFill_m2 (r2.hear hla hls (by omega) rmF (fun v3 g3 n3 r3 o3 => ?_)))
    simp only [kExtract_t, kGet_zero, kGet_succ, kBin_neq]
    refine kSplit_f (by simp) (r3.load hla hls (by omega) rmG.1 rmG.2 rfl (fun v4 g4 n4 r4 o4 => ?_))
    simp only [kExtract_t, kGet_zero, kGet_succ]
    refine o4.sl.len ?_
    simp only [kBin_eql]
    refine kSplit_t (by simp) (o4.sl.idx (j := 0) encM_len rfl (fun l o hat => ?_))
    simp only [kPtr_p]
    refine hat.ld (i := 0) (v := .int .i64 1) rfl ?_
    simp only [kBin_eql]
    refine kSplit_t (by simp) (o4.sl.idx (j := 0) encM_len rfl (fun l o hat => ?_))
    simp only [kPtr_p]
    refine hat.ld (i := 1) (v := .int .i64 5) rfl ?_
    simp only [kBin_eql]
    refine kSplit_t (by simp) (AgSlots_spec r4.gd.ok r4.ag (fun v5 g5 n5 hs5 h5 => ?_))
    refine h5.len ?_
    rw [rmH]
    simp only [kBin_eql]
    refine kSplit_t (by simp) ?_
    exact wakes08_spec fun n' => aRet_of (r4.hs.trans hs5) (hK _)
  | false =>
    refine kSplit_f rfl ?_
    refine r1.load hla hls (by omega) rmE.1 rmE.2 rfl (fun v2 g2 n2 r2 o2 => ?_)
    simp only [kExtract_t, kGet_zero, kGet_succ]
    refine kSplit_f rfl (o2.sl.len ?_)
    simp only [kBin_neq]
    refine kSplit_f (by simp) (kFill_m2 (r2.hear hla hls (by omega) rmF (fun v3 g3 n3 r3 o3 => ?_)))
    simp only [kExtract_t, kGet_zero, kGet_succ, kBin_neq]
    refine kSplit_f (by simp) (r3.load hla hls (by omega) rmG.1 rmG.2 rfl (fun v4 g4 n4 r4 o4 => ?_))
    simp only [kExtract_t, kGet_zero, kGet_succ]
    refine o4.sl.len ?_
    simp only [kBin_eql]
    refine kSplit_t (by simp) (o4.sl.idx (j := 0) encM_len rfl (fun l o hat => ?_))
    simp only [kPtr_p]
    refine hat.ld (i := 0) (v := .int .i64 1) rfl ?_
    simp only [kBin_eql]
    refine kSplit_t (by simp) (o4.sl.idx (j := 0) encM_len rfl (fun l o hat => ?_))
    simp only [kPtr_p]
    refine hat.ld (i := 1) (v := .int .i64 5) rfl ?_
    simp only [kBin_eql]
    refine kSplit_t (by simp) (AgSlots_spec r4.gd.ok r4.ag (fun v5 g5 n5 hs5 h5 => ?_))
    refine h5.len ?_
    rw [rmH]
    simp only [kBin_eql]
    refine kSplit_t (by simp) ?_
    exact wakes08_spec fun n' => aRet_of (r4.hs.trans hs5) (hK _)
end
def rmI (d : Bool) (v : Int) : Nat → Arr
  | 0 => arr0 1 2
  | 1 => rm1 d v
  | _ => rm2 d v
theorem AgentRoom_spec {v : Int} {d : Bool} {K : Cont} (hK : ∀ n', K (.bool true) g n') : AC bellowslaw08_AgentRoom_id [.int .u64 v, .bool d] g n K := by
  refine ACalls.fold X0_mono ?_
  rw [← bellowslaw08_AgentRoom_eq]
  simp only [bellowslaw08_AgentRoom]
  refine AgNew_spec (by unfold goodA; omega) (fun lg la ls g1 n1 hs1 hlg hla hls hh => ?_)
  have r0 : Run g g1 lg la ls (arr0 1 2) 0 := ⟨hs1, hh, gd0 (by omega) (by omega) (by omega)⟩
  simp only [kExtract_t, kGet_zero, kGet_succ, kBin_neq, kBin_p_eql]
  refine kSplit_f (by simp) (kSplit_f rfl ?_)
  refine lfp_ind (fun m t g' n' => ∃ i : Nat, m = 2 - i ∧ i ≤ 2 ∧ t 0 = .int .u64 v ∧ t 1 = .bool d ∧ t 5 = ptr lg 0 ∧ t 7 = .int .i64 i ∧ Run g g' lg la ls (rmI d v i) (3 * i)) ?_ (m := 2) ⟨0, rfl, by omega, rfl, rfl, rfl, rfl, r0⟩
  rintro I m t g2 n2 hI ⟨i, hm, hi, t0, t1, t5, t7, r⟩
  simp only [bellowslaw08_AgentRoom_l1, t0, t1, t5, t7, kBin_lss, kSplit_b, decide_eq_true_eq, decide_eq_false_iff_not]
  have j2 : ∀ (t : Env) (g3 : G) (n3 : Nat), i < 2 → t 0 = .int .u64 v → t 1 = .bool d → t 5 = ptr lg 0 → t 7 = .int .i64 i → Run g g3 lg la ls (rmI d v (i + 1)) (3 * (i + 1)) → bellowslaw08_AgentRoom_j2 AC K I t g3 n3 := by
    intro t g3 n3 hi t0 t1 t5 t7 r
    simp only [bellowslaw08_AgentRoom_j2, t7, kBin_add]
    rw [wrapNat (by omega)]
    exact hI (2 - (i + 1)) _ _ _ (by omega) ⟨i + 1, rfl, by omega, t0, t1, t5, rfl, r⟩
  refine ⟨fun hlt => ?_, fun hge => ?_⟩
  · have : i = 0 ∨ i = 1 := by omega
    rcases this with rfl | rfl
    · refine r.store hla hls (by omega) (rmA1 (v := v)).1 (rmA1 (v := v)).2 (fun v3 g3 n3 r3 o3 => kFill_m2 (r3.hear hla hls (by omega) rmA2 (fun v4 g4 n4 r4 o4 => ?_)))
      simp only [kExtract_t, kGet_zero, kGet_succ, kBin_neq]
      refine kSplit_f (by simp) ⟨fun hd => ?_, fun hd => ?_⟩
      · subst hd
        refine r4.store hla hls (by omega) (rmA3 (v := v)).1 (rmA3 (v := v)).2 (fun v5 g5 n5 r5 o5 => ?_)
        simp only [kExtract_t, kGet_zero, kGet_succ, kUn_not]
        exact kSplit_f rfl (j2 _ _ _ (by omega) t0 t1 t5 t7 r5)
      · subst hd
        rw [kBin_eql]
        exact kSplit_f (by decide) (j2 _ _ _ (by omega) t0 t1 t5 t7 ⟨r4.hs, r4.ag, r4.gd.le (by omega)⟩)
    · refine r.store hla hls (by omega) rmB1.1 rmB1.2 (fun v3 g3 n3 r3 o3 => kFill_m2 (r3.hear hla hls (by omega) rmB2 (fun v4 g4 n4 r4 o4 => ?_)))
      simp only [kExtract_t, kGet_zero, kGet_succ, kBin_neq]
      refine kSplit_f (by simp) ⟨fun hd => ?_, fun hd => ?_⟩
      · refine r4.store hla hls (by omega) rmB3.1 rmB3.2 (fun v5 g5 n5 r5 o5 => ?_)
        simp only [kExtract_t, kGet_zero, kGet_succ, kUn_not]
        exact kSplit_f rfl (j2 _ _ _ (by omega) t0 t1 t5 t7 ⟨r5.hs, r5.ag, r5.gd.le (by omega)⟩)
      · rw [kBin_eql]
        refine kSplit_t (by decide) ?_
        refine r4.store hla hls (by omega) rmB3.1 rmB3.2 (fun v5 g5 n5 r5 o5 => ?_)
        simp only [kExtract_t, kGet_zero, kGet_succ, kUn_not]
        exact kSplit_f rfl (j2 _ _ _ (by omega) t0 t1 t5 t7 ⟨r5.hs, r5.ag, r5.gd.le (by omega)⟩)
  · have : i = 2 := by omega
    subst this
    have r : Run g g2 lg la ls (rm2 d v) 6 := r
    simp only [bellowslaw08_AgentRoom_j3]
    show kUn .not (t 1) _
    rw [t1]
    simp only [kUn_not]
    cases d with
    | true =>
      refine kSplit_f rfl ?_
      rw [rmC'] at r
      exact Room_j4 hK hla hls r (by omega) t0 t1 t5
    | false =>
      refine kSplit_t rfl ?_
      show AC _ [t 5, _, _] _ _ _
      rw [t5]
      refine r.load hla hls (by omega) rmC rfl rfl (fun v3 g3 n3 r3 o3 => ?_)
      exact Room_j4 hK hla hls r3 (by omega) t0 t1 t5
end Go.Proofs.Ytncodeibkmekmab.Gen

namespace Go.Proofs.Ytncodeibkmekmab.Gen
open Go Go.Proofs.Ytncodeibkmekmab.Abs Go.RowKit
variable {g : G} {n : Nat}
theorem room_cases {A : Arr} (hok : A.ok) (hw : A.wf) {line : Int} (hl : 0 ≤ line) : A.room line = (true, -1) ∨ A.room line = (false, -1) ∨
    ∃ s ∈ A.part line, s.rest ∧ A.room line = (false, s.line) ∧ 0 ≤ s.line ∧ (∀ t ∈ A.part line, t.rest → s.used ≤ t.used) ∧ Has A s.line s := by
  unfold Arr.room
  rw [if_neg (by omega)]
  by_cases hf : ∃ s ∈ A.part line, s.state = 0
  · exact .inl (roomScan_free _ _ _ hf)
  · have h0 : ∀ s ∈ A.part line, s.state ≠ 0 := fun s hs e => hf ⟨s, hs, e⟩
    have hm : ∀ s ∈ A.part line, 0 ≤ s.line ∧ Has A s.line s := by
      intro s hs
      obtain ⟨i, hi, _, _⟩ := Arr.part_mem hs
      exact ⟨(hw.place i s hi (h0 s hs)).1, i, hi, h0 s hs, rfl⟩
    obtain ⟨v', e, hh⟩ := roomScan_full (A.part line) (-1) 0 h0 (fun s hs _ => (hm s hs).1) (.inl rfl)
    rw [e]
    rcases hh with ⟨rfl, _, _⟩ | ⟨u, hh, _, hmin⟩
    · exact .inr (.inl rfl)
    · rcases hh with ⟨_, _, hh⟩ | ⟨s, hs, hr, rfl, rfl⟩
      · omega
      · exact .inr (.inr ⟨s, hs, hr, rfl, (hm s hs).1, hmin, (hm s hs).2⟩)
/-- how many slots are on their way -/
def upB (s : St) : Bool := decide (3 < s.state)
def Arr.way (A : Arr) : Nat := A.l.countP upB
theorem slot_at {A : Arr} {line : Int} (h : (A.slot line).state ≠ 0) : ∃ k, A.at line = some k ∧ A.slotAt line k = A.slot line := by
  unfold Arr.slot Arr.find at h ⊢
  cases ha : A.at line with
  | none => rw [ha] at h; exact absurd rfl h
  | some k => exact ⟨k, rfl, rfl⟩
theorem slot_of {A : Arr} {line : Int} {k : Nat} (h : A.at line = some k) : A.slot line = A.slotAt line k := by
  unfold Arr.slot Arr.find; rw [h]
theorem way_put {A : Arr} {line : Int} {k : Nat} {s t : St} (ht : A.l[A.from line + k]? = some t) : (A.put line k s).way = A.way - (if upB t then 1 else 0) + (if upB s then 1 else 0) := by
  obtain ⟨hlt, he⟩ := List.getElem?_eq_some_iff.1 ht
  show (A.l.set (A.from line + k) s).countP upB = _
  rw [List.countP_set hlt, he]; rfl
theorem way_pos {A : Arr} {i : Nat} {t : St} (ht : A.l[i]? = some t) (hu : upB t = true) : 1 ≤ A.way :=
  List.countP_pos_iff.2 ⟨t, List.mem_of_getElem? ht, hu⟩
theorem idle_way {A : Arr} (hw : A.wf) : A.idle = true ↔ A.way = 0 := by
  unfold Arr.idle Arr.way
  rw [Option.isNone_iff_eq_none, List.findIdx?_eq_none_iff, List.countP_eq_zero]
  constructor
  · intro h s hs
    by_cases h0 : s.state = 0
    · unfold upB; rw [h0]; decide
    · have := h s (List.mem_filter.2 ⟨hs, by simpa using h0⟩)
      unfold restB at this
      unfold upB
      simp only [Bool.not_eq_false', decide_eq_true_eq] at this
      simp only [decide_eq_true_eq]; omega
  · intro h s hs
    obtain ⟨h1, h2⟩ := List.mem_filter.1 hs
    have h3 := h s h1
    obtain ⟨i, hi⟩ := List.getElem?_of_mem h1
    have h0 : s.state ≠ 0 := by simpa using h2
    have := (hw.place i s hi h0).2.2.2.1
    unfold upB at h3
    unfold restB
    simp only [decide_eq_true_eq] at h3
    simp only [Bool.not_eq_false', decide_eq_true_eq]; omega
theorem set_some {A : Arr} {line st : Int} {d : Ln} {k : Nat} (hl : 0 ≤ line) (h1 : 1 ≤ st) (h9 : st ≤ 9) (ho : (A.at line).or (A.free line) = some k) : (A.set line st d).2 = A.tick.put line k ⟨st, line, d, A.used + 1⟩ := by
  unfold Arr.set; rw [if_neg (by omega), ho]
theorem way_set_idle {A : Arr} (hok : A.ok) {line st : Int} {d : Ln} {k : Nat} (h0 : A.way = 0) (hl : 0 ≤ line) (h4 : 4 ≤ st) (h9 : st ≤ 9) (ho : (A.at line).or (A.free line) = some k) : (A.set line st d).2.way = 1 := by
  rw [set_some hl (by omega) h9 ho]
  have hk : k < A.ways := by
    cases ha : A.at line with
    | none => rw [ha] at ho; exact Arr.free_lt hok hl (by simpa using ho)
    | some k' => rw [ha] at ho; simp at ho; subst ho; exact (Arr.at_lt hok ha).2
  have ht := Arr.slotAt_get hok hl hk
  rw [way_put (A := A.tick) ht]
  show A.way - _ + _ = 1
  rw [h0]
  have : upB ⟨st, line, d, A.used + 1⟩ = true := by unfold upB; rw [decide_eq_true_eq]; show 3 < st; omega
  rw [this]; simp
theorem way_set_at {A : Arr} (hok : A.ok) {line st : Int} {d : Ln} (hs : (A.slot line).state ≠ 0) (h1 : 1 ≤ st) (h9 : st ≤ 9) : (A.set line st d).2.way = A.way - (if upB (A.slot line) then 1 else 0) + (if 3 < st then 1 else 0) ∧ (upB (A.slot line) = true → 1 ≤ A.way) := by
  obtain ⟨k, ha, he⟩ := slot_at hs
  obtain ⟨hl, hk⟩ := Arr.at_lt hok ha
  have ht := Arr.slotAt_get hok hl hk
  rw [he] at ht
  refine ⟨?_, fun hu => way_pos ht hu⟩
  rw [set_some hl h1 h9 (by rw [ha]; rfl), way_put (A := A.tick) ht]
  show A.way - _ + _ = _
  congr 1
  unfold upB
  simp only [decide_eq_true_eq]
theorem way_touch {A : Arr} (hok : A.ok) (line : Int) : (A.touch line).way = A.way := by
  unfold Arr.touch
  cases ha : A.at line with
  | none => rfl
  | some k =>
    obtain ⟨hl, hk⟩ := Arr.at_lt hok ha
    have ht := Arr.slotAt_get hok hl hk
    show (A.tick.put line k _).way = _
    rw [way_put (A := A.tick) ht]
    show A.way - _ + (if upB (A.slotAt line k) then 1 else 0) = A.way
    split
    · rename_i hu
      have := way_pos ht hu
      omega
    · omega
theorem way_drop {A : Arr} (hok : A.ok) (line : Int) : (A.drop line).way ≤ A.way := by
  unfold Arr.drop
  cases ha : A.at line with
  | none => exact Nat.le_refl _
  | some k =>
    obtain ⟨hl, hk⟩ := Arr.at_lt hok ha
    have ht := Arr.slotAt_get hok hl hk
    show (A.put line k zeroS).way ≤ _
    rw [way_put ht]
    have : upB zeroS = false := rfl
    rw [this]
    simp
/-- what one call does to this -/
structure One (A : Arr) (ms : List Ms) (A' : Arr) : Prop where
  way : A'.way ≤ 1
  len : ms.length ≤ 1
  asks : ms.length = 1 → A.idle = true ∧ A'.way = 1
theorem One.no {A A' : Arr} (h : A'.way ≤ 1) : One A [] A' := ⟨h, by simp, by simp⟩
theorem One.out {A : Arr} {s : St} (hok : A.ok) (hw : A.wf) (hi : A.idle = true) (hs : A.slot s.line = s) (h0 : s.state ≠ 0) : One A (A.out s).1 (A.out s).2 := by
  have h00 := (idle_way hw).1 hi
  have : (A.out s).2.way = 1 := by
    obtain ⟨k, ha, he⟩ := slot_at (A := A) (line := s.line) (by rw [hs]; exact h0)
    obtain ⟨hl, hk⟩ := Arr.at_lt hok ha
    refine way_set_idle hok h00 hl ?_ ?_ (by rw [ha]; rfl)
    · unfold outSt; split <;> omega
    · unfold outSt; split <;> omega
  exact ⟨by omega, by simp [Arr.out], fun _ => ⟨hi, this⟩⟩
theorem slot_self {A : Arr} (hok : A.ok) {line : Int} (h0 : (A.slot line).state ≠ 0) : A.slot (A.slot line).line = A.slot line := by
  obtain ⟨k, ha, he⟩ := slot_at h0
  obtain ⟨t, _, _, hl, hst⟩ := Arr.at_some hok ha
  have : (A.slot line).line = line := by rw [← he, hst, hl]
  rw [this]
theorem One.ask {A : Arr} (hok : A.ok) (hw : A.wf) (h1 : A.way ≤ 1) {line state kind : Int} {d : Ln} (hl : 0 ≤ line) (h4 : 4 ≤ state) (h9 : state ≤ 9) (h6 : state = 6 → (A.slot line).state ≠ 0) : One A (A.ask line state kind d).1 (A.ask line state kind d).2 := by
  unfold Arr.ask
  split
  · exact One.no h1
  · rename_i hi
    have hi : A.idle = true := by simpa using hi
    have h00 := (idle_way hw).1 hi
    split
    · rename_i hc
      split
      · exact One.no h1
      · rename_i hv
        rcases room_cases hok hw hl with e | e | ⟨s, _, hr, e, hs0, _, hhs⟩
        · rw [e] at hc; exact absurd hc.2 (by decide)
        · rw [e] at hv; exact absurd (show (-1 : Int) < 0 by decide) hv
        · rw [e]
          have hf := (hhs.find hok hw).1
          have hsl : A.slot s.line = s := by unfold Arr.slot; rw [hf]
          show One A (A.out (A.slot s.line)).1 (A.out (A.slot s.line)).2
          rw [hsl]
          exact One.out hok hw hi hsl (by have := hr.1; omega)
    · rename_i hc
      have hset : (A.set line state d).2.way = 1 := by
        by_cases e6 : state = 6
        · obtain ⟨k, ha, _⟩ := slot_at (h6 e6)
          exact way_set_idle hok h00 hl h4 h9 (by rw [ha]; rfl)
        · have hr : (A.room line).1 = true := by
            cases h : (A.room line).1 with
            | true => rfl
            | false => exact absurd ⟨e6, h⟩ hc
          rw [room_ref hw hl] at hr
          cases hf : A.free line with
          | none => rw [hf] at hr; cases hr
          | some q =>
            cases ha : A.at line with
            | none => exact way_set_idle (k := q) hok h00 hl h4 h9 (by rw [ha, hf]; rfl)
            | some k => exact way_set_idle (k := k) hok h00 hl h4 h9 (by rw [ha]; rfl)
      exact ⟨by show (A.set line state d).2.way ≤ 1; omega, by simp, fun _ => ⟨hi, hset⟩⟩
theorem isW_line {a b : Int} (h : isW a b = true) : 0 ≤ a := by
  have := of_decide_eq_true (show decide _ = true from h); omega
theorem One.load {A : Arr} (hok : A.ok) (hw : A.wf) (h1 : A.way ≤ 1) (line word : Int) : One A (A.load line word).1 (A.load line word).2 := by
  unfold Arr.load
  split
  · exact One.no h1
  · rename_i hi
    split
    · exact One.no (by rw [way_touch hok]; exact h1)
    · exact One.ask hok hw h1 (isW_line (b := word) (by simpa using hi)) (by omega) (by omega) (fun h => absurd h (by decide))
theorem One.reach {A : Arr} (hok : A.ok) (hw : A.wf) (h1 : A.way ≤ 1) (line : Int) : One A (A.reach line).1 (A.reach line).2 := by
  unfold Arr.reach
  split
  · exact One.no h1
  · rename_i hc
    have hl : 0 ≤ line := isW_line (b := 0) (by
      cases h : isW line 0 with
      | true => rfl
      | false => exact absurd (.inl h) hc)
    split
    · rename_i hs
      exact One.ask hok hw h1 hl (by omega) (by omega) (fun _ => by rw [hs]; decide)
    · exact One.ask hok hw h1 hl (by omega) (by omega) (fun h => absurd h (by decide))
theorem One.store {A : Arr} (hok : A.ok) (hw : A.wf) (h1 : A.way ≤ 1) (line word v : Int) : One A (A.store line word v).1 (A.store line word v).2 := by
  unfold Arr.store
  split
  · exact One.no h1
  · split
    · exact One.reach hok hw h1 line
    · rename_i ho
      have ho : (A.slot line).state = 2 ∨ (A.slot line).state = 3 := by
        have : A.owns line = true := by simpa using ho
        exact of_decide_eq_true (show decide _ = true from this)
      refine One.no ?_
      obtain ⟨e, _⟩ := way_set_at hok (st := 3) (d := (A.slot line).data.put word.toNat v) (by omega : (A.slot line).state ≠ 0) (by omega) (by omega)
      have hu : upB (A.slot line) = false := by unfold upB; rw [decide_eq_false_iff_not]; omega
      show (A.set line 3 _).2.way ≤ 1
      rw [e, hu]; simp; exact h1
theorem One.evict {A : Arr} (hok : A.ok) (hw : A.wf) (h1 : A.way ≤ 1) (line : Int) : One A (A.evict line).1 (A.evict line).2.1 := by
  unfold Arr.evict
  split
  · exact One.no h1
  · rename_i hi
    have hi : A.idle = true := by simpa using hi
    split
    · exact One.no h1
    · rename_i h0
      exact One.out hok hw hi (slot_self hok h0) h0
theorem way_hear {A : Arr} (hok : A.ok) (hw : A.wf) (h1 : A.way ≤ 1) (m : Ms) : (A.hear m).2.1.way ≤ 1 := by
  unfold Arr.hear
  split
  · exact h1
  · rename_i hc
    have hkd : 8 ≤ m.kind ∧ m.kind ≤ 14 := by
      have : tellsB m.kind = true := by
        cases h : tellsB m.kind with
        | true => rfl
        | false => exact absurd (.inr h) hc
      exact of_decide_eq_true (show decide _ = true from this)
    split
    · exact h1
    · rename_i t1
      split
      · exact h1
      · rename_i t2
        split
        · have := way_drop hok (A := A) m.line
          show (A.drop m.line).way ≤ 1
          omega
        · rename_i t0
          have hst := slot_state hok hw m.line
          generalize hs : (A.slot m.line).state = s at *
          have ht : 1 ≤ turn m.kind s ∧ turn m.kind s ≤ 9 ∧ s ≠ 0 ∧ (3 < turn m.kind s → 3 < s) := by
            revert t0 t1 t2
            unfold turn
            have hk : m.kind = 8 ∨ m.kind = 9 ∨ m.kind = 10 ∨ m.kind = 11 ∨ m.kind = 12 ∨ m.kind = 13 ∨ m.kind = 14 := by omega
            rcases hk with e | e | e | e | e | e | e <;> rw [e] <;> simp <;> (repeat' split) <;> omega
          obtain ⟨e, hp⟩ := way_set_at hok (line := m.line) (st := turn m.kind s) (d := hearD m (A.slot m.line) (turn m.kind s)) (by rw [hs]; exact ht.2.2.1) ht.1 ht.2.1
          show (A.set m.line (turn m.kind s) _).2.way ≤ 1
          rw [e]
          have hu : upB (A.slot m.line) = decide (3 < s) := by unfold upB; rw [hs]
          rw [hu] at hp ⊢
          by_cases h3 : 3 < s
          · have := hp (by simpa using h3)
            simp only [decide_eq_true h3, if_true]
            split <;> omega
          · have : ¬ 3 < turn m.kind s := fun h => h3 (ht.2.2.2 h)
            rw [if_neg this]
            simp only [decide_eq_false h3]
            simp; exact h1
theorem slots_way (A : Arr) : A.slots.countP upB = A.way := by
  unfold Arr.slots Arr.way
  rw [List.countP_filter]
  congr 1
  funext s
  unfold upB
  by_cases h : s.state = 0
  · simp [h]
  · simp [h]
end Go.Proofs.Ytncodeibkmekmab.Gen

namespace Go.Proofs.Ytncodeibkmekmab.Gen
open Go Go.Proofs.Ytncodeibkmekmab.Abs Go.RowKit
variable {g : G} {n : Nat}
/-- a step -/
structure Tp where
  kind : Int
  line : Int
  word : Int
  val : Int
  m : Ms
def encT (x : Tp) : List Value := [.int .i64 x.kind, .int .i64 x.line, .int .i64 x.word, .int .u64 x.val] ++ encM x.m
theorem encT_len (x : Tp) : (encT x).length = 16 := by simp [encT, encM_len]
theorem encT_cell (x : Tp) : ∀ v ∈ encT x, isCell v = true := by
  intro v hv
  simp only [encT, List.mem_append, List.mem_cons, List.not_mem_nil, or_false] at hv
  rcases hv with (rfl | rfl | rfl | rfl) | h
  · rfl
  · rfl
  · rfl
  · rfl
  · exact encM_cell _ v h
def zeroT : Tp := ⟨0, 0, 0, 0, zeroM⟩
theorem ldTm {l : Nat} {x : Tp} {bk : BK} {K : List Value → Prop} (h : g l = some (.cells (encT x) bk)) (k : K (encM x.m)) : kLdN g l (0 + 4) 12 K := by
  refine kLdN_of h (by rw [encT_len]; decide) ?_
  have : ((encT x).drop (0 + 4)).take 12 = encM x.m := by
    show (encM x.m).take 12 = _
    rw [List.take_of_length_le (by rw [encM_len]; exact Nat.le_refl _)]
  rw [this]; exact k
theorem newT {x : Tp} {K : Nat → G → Nat → Prop} (k : ∀ g2, Sub g g2 → g n = none → g2 n = some (.cells (encT x) .exact) → K n g2 (n + 1)) :
    kNew (encT zeroT) .exact g n fun l g1 n1 => kAgg (.agg (encT x).toArray) fun cg => cg.length = 16 ∧ kStN g1 l 0 cg fun g2 => K l g2 n1 := by
  intro hn
  simp only [kAgg_a]
  refine ⟨encT_len _, kStN_of (upd_same _ _ _) rfl (by rw [encT_len, encT_len]; decide) (encT_cell _) ?_⟩
  rw [splice_all (by rw [encT_len, encT_len])]
  exact k _ (((Sub.refl g).new hn _).upd_fresh _ hn) hn (upd_same _ _ _)
section
variable {a2 : Value} {xs : List Tp} {lg la ls : Nat} {K : Cont} {g0 : G} {i : Nat} {I : ECont}
structure GO (g0 : G) (a2 : Value) (xs : List Tp) (lg la ls : Nat) (K : Cont) : Prop where
  hxl : xs.length ≤ 200
  h1 : Sl encT 16 g0 a2 xs
  hla : g0 la = none
  hls : g0 ls = none
  hK : ∀ n', K (.bool true) g0 n'
structure GOt (a2 : Value) (lg i : Nat) (t : Env) : Prop where
  t2 : t 2 = a2
  t7 : t 7 = ptr lg 0
  t9 : t 9 = .int .i64 i
def NextG (g0 : G) (a2 : Value) (lg la ls i : Nat) (I : ECont) : Prop := ∀ (t : Env) (g : G) (n : Nat) (A : Arr), GOt a2 lg (i + 1) t → Run g0 g lg la ls A (i + 1) → A.way ≤ 1 → I t g n
theorem GO_j2 (P : GO g0 a2 xs lg la ls K) (hi : i < 1000) (hN : NextG g0 a2 lg la ls i I) {t : Env} {A A' : Arr} {ms : List Ms} (ht : GOt a2 lg i t) (r : Run g0 g lg la ls A' (i + 1)) (ho : One A ms A')
    (h12 : Sl encM 12 g (t 12) ms) (h11 : t 11 = .bool A.idle) : bellowslaw08_AgentOne_j2 AC K I t g n := by
  have h64 := slotsN r.gd.ok
  have hway := slots_way A'
  have tail : ∀ (t : Env) (v1 : Value) (g1 : G) (n1 : Nat), GOt a2 lg i t → Sub g g1 → Sl encS 11 g1 v1 A'.slots → Sl encM 12 g1 (t 12) ms → t 13 = v1 → t 14 = .int .i64 0 → t 15 = .int .i64 0 → lfp (bellowslaw08_AgentOne_l3 AC K I) t g1 n1 := by
    intro t v1 g1 n1 ht hs1 hv1 h12 t13 t14 t15
    refine lfp_ind (fun m t' g' n' => g' = g1 ∧ ∃ k : Nat, m = A'.slots.length - k ∧ k ≤ A'.slots.length ∧ GOt a2 lg i t' ∧ t' 12 = t 12 ∧ t' 13 = v1 ∧ t' 14 = .int .i64 (((A'.slots.take k).countP upB : Nat) : Int) ∧ t' 15 = .int .i64 k) ?_
      (m := A'.slots.length) ⟨rfl, 0, by simp, by simp, ht, rfl, t13, by simpa using t14, t15⟩
    clear t13 t14 t15 ht
    rintro J m t' g2 n2 hJ ⟨rfl, k, hm, hk, ht, t12, t13, t14, t15⟩
    simp only [bellowslaw08_AgentOne_l3, t13, t14, t15]
    refine hv1.len ?_
    simp only [kBin_lss, kSplit_b, decide_eq_true_eq, decide_eq_false_iff_not]
    have hcnt : (A'.slots.take k).countP upB ≤ 64 := by
      have := List.countP_le_length (p := upB) (l := A'.slots.take k)
      rw [List.length_take] at this; omega
    refine ⟨fun hlt => ?_, fun hge => ?_⟩
    · have hlt : k < A'.slots.length := by omega
      have he : A'.slots[k]? = some A'.slots[k] := List.getElem?_eq_getElem hlt
      generalize A'.slots[k] = s at he
      have j4 : ∀ (t' : Env) (n3 : Nat), GOt a2 lg i t' → t' 12 = t 12 → t' 13 = v1 → t' 14 = .int .i64 (((A'.slots.take (k + 1)).countP upB : Nat) : Int) → t' 15 = .int .i64 k → bellowslaw08_AgentOne_j4 AC K I J t' g2 n3 := by
        intro t' n3 ht t12 t13 t14 t15
        simp only [bellowslaw08_AgentOne_j4, t15, kBin_add]
        rw [wrapNat (by omega)]
        exact hJ (A'.slots.length - (k + 1)) _ _ _ (by omega) ⟨rfl, k + 1, rfl, by omega, ⟨ht.t2, ht.t7, ht.t9⟩, t12, t13, t14, rfl⟩
      refine hv1.idx encS_len he (fun l o hat => ?_)
      simp only [kPtr_p]
      refine hat.ld (encS_0 s) ?_
      simp only [kBin_gtr, kBin_add, kSplit_b, decide_eq_true_eq, decide_eq_false_iff_not]
      rw [wrapNat (by omega)]
      refine ⟨fun h3 => j4 _ _ ⟨ht.t2, ht.t7, ht.t9⟩ t12 t13 ?_ t15, fun h3 => j4 _ _ ⟨ht.t2, ht.t7, ht.t9⟩ t12 t13 ?_ t15⟩
      · rw [take_add he, List.countP_append]
        have : [s].countP upB = 1 := by simp [upB, h3]
        rw [this]; rfl
      · rw [take_add he, List.countP_append]
        have : [s].countP upB = 0 := by simp [upB, h3]
        rw [this]; exact t14
    · have : k = A'.slots.length := by omega
      subst this
      rw [List.take_length, hway] at t14
      simp only [bellowslaw08_AgentOne_j5]
      show kBin .int .gtr (t' 14) _ _
      rw [t14]
      simp only [kBin_gtr]
      have hw1 := ho.way
      refine kSplit_f (by rw [decide_eq_false_iff_not]; omega) ?_
      show AC agent_Agent_Idle_id [t' 7] _ _ _
      rw [ht.t7]
      have r1 := r.mono hs1
      refine Idle_spec r1.gd.ok r1.ag (fun n3 => ?_)
      show kBin .int .eql (t' 14) _ _
      rw [t14]
      simp only [kBin_eql, kBin_bneq]
      have e : A'.idle = decide (((A'.way : Nat) : Int) = 0) := by
        rw [Bool.eq_iff_iff, idle_way r1.gd.wf, decide_eq_true_eq]; omega
      rw [e]
      refine kSplit_f (by simp) ?_
      show kLen (t' 12) _
      rw [t12]
      refine h12.len ?_
      have j6 : ∀ (t' : Env) (n3 : Nat), GOt a2 lg i t' → bellowslaw08_AgentOne_j6 AC K I t' g2 n3 := by
        intro t' n3 ht
        simp only [bellowslaw08_AgentOne_j6, ht.t9, kBin_add]
        rw [wrapNat (by omega)]
        exact hN _ _ _ A' ⟨ht.t2, ht.t7, rfl⟩ r1 hw1
      simp only [kBin_eql, kSplit_b, decide_eq_true_eq, decide_eq_false_iff_not]
      refine ⟨fun h1 => ?_, fun _ => j6 _ _ ⟨ht.t2, ht.t7, ht.t9⟩⟩
      have hw := (ho.asks (by omega)).2
      show kBin .int .neq (t' 14) _ _
      rw [t14, hw]
      simp only [kBin_neq]
      exact kSplit_f (by simp) (j6 _ _ ⟨ht.t2, ht.t7, ht.t9⟩)
  have hlen := ho.len
  simp only [bellowslaw08_AgentOne_j2, h11, ht.t7]
  refine h12.len ?_
  simp only [kBin_gtr]
  refine kSplit_f (by rw [decide_eq_false_iff_not]; omega) (h12.len ?_)
  simp only [kBin_eql, kSplit_b, decide_eq_true_eq, decide_eq_false_iff_not]
  refine ⟨fun h1 => ?_, fun h1 => ?_⟩
  · rw [(ho.asks (by omega)).1]
    simp only [kUn_not]
    refine kSplit_f rfl (AgSlots_spec r.gd.ok r.ag (fun v1 g1 n1 hs1 hv1 => ?_))
    exact tail _ v1 g1 n1 ⟨ht.t2, ht.t7, ht.t9⟩ hs1 hv1 (h12.mono hs1) rfl rfl rfl
  · refine AgSlots_spec r.gd.ok r.ag (fun v1 g1 n1 hs1 hv1 => ?_)
    exact tail _ v1 g1 n1 ⟨ht.t2, ht.t7, ht.t9⟩ hs1 hv1 (h12.mono hs1) rfl rfl rfl
end
theorem AgentOne_spec {a2 : Value} {n0 w0 : Int} {xs : List Tp} (h1 : Sl encT 16 g a2 xs) (hn0 : 0 ≤ n0 ∧ n0 ≤ 255) (hw0 : 0 ≤ w0 ∧ w0 ≤ 255) {K : Cont} (hK : ∀ n', K (.bool true) g n') :
    AC bellowslaw08_AgentOne_id [.int .u8 n0, .int .u8 w0, a2] g n K := by
  refine ACalls.fold X0_mono ?_
  rw [← bellowslaw08_AgentOne_eq]
  simp only [bellowslaw08_AgentOne, kBin_rem]
  refine ⟨by decide, ?_⟩
  rw [Int.tmod_eq_emod_of_nonneg hn0.1]
  have hsh : ∀ {q : Int} {K' : Value → Prop}, 0 ≤ q → q < 4 → K' (.int .i64 (2 ^ q.toNat)) → kBin .int .shl (.int .i64 1) (.int .u8 q) K' := by
    intro q K' h0 h4 k
    have : q = 0 ∨ q = 1 ∨ q = 2 ∨ q = 3 := by omega
    rcases this with rfl | rfl | rfl | rfl <;> exact ⟨trivial, by decide, k⟩
  refine hsh (by omega) (by omega) ?_
  have hS : ∃ S : Nat, ((2 : Int) ^ (n0 % 4).toNat) = (S : Int) ∧ (S = 1 ∨ S = 2 ∨ S = 4 ∨ S = 8) := by
    have : n0 % 4 = 0 ∨ n0 % 4 = 1 ∨ n0 % 4 = 2 ∨ n0 % 4 = 3 := by omega
    rcases this with h | h | h | h <;> rw [h]
    · exact ⟨1, rfl, by omega⟩
    · exact ⟨2, rfl, by omega⟩
    · exact ⟨4, rfl, by omega⟩
    · exact ⟨8, rfl, by omega⟩
  obtain ⟨S, eS, hS⟩ := hS
  rw [eS]
  simp only [kConv_i, kBin_rem, kBin_add]
  refine ⟨by decide, ?_⟩
  rw [wrap64_of (a := w0) (by omega) (by omega), Int.tmod_eq_emod_of_nonneg hw0.1, wrap64_of (a := 1 + w0 % 8) (by omega) (by omega)]
  obtain ⟨W, hW⟩ : ∃ W : Nat, 1 + w0 % 8 = (W : Int) := ⟨(1 + w0 % 8).toNat, by omega⟩
  have hW2 : 1 ≤ W ∧ W ≤ 8 := by omega
  rw [hW]
  refine AgNew_spec (show goodA S W by unfold goodA; omega) (fun lg la ls g2 n2 hs2 hlg hla hls hh0 => ?_)
  simp only [kExtract_t, kGet_zero, kGet_succ, kBin_neq, kBin_p_eql]
  refine kSplit_f (by simp) (kSplit_f rfl ?_)
  refine (h1.mono hs2).len ?_
  simp only [kBin_gtr, kSplit_b, decide_eq_true_eq, decide_eq_false_iff_not]
  refine ⟨fun _ => ?_, fun hlen => ?_⟩
  · simp only [kBin_eql, kBin_p_neq]
    refine kSplit_t (by simp) (kSplit_t rfl ?_)
    exact wakes08_spec fun n' => aRet_of hs2 (hK _)
  have P : GO g a2 xs lg la ls K := ⟨by omega, h1, hla, hls, hK⟩
  simp only [Int.toNat_natCast] at hh0
  have r0 : Run g g2 lg la ls (arr0 S W) 0 := ⟨hs2, hh0, gd0 hS hW2.1 hW2.2⟩
  have w00 : (arr0 S W).way ≤ 1 := by
    have : (arr0 S W).way = 0 := List.countP_eq_zero.2 fun s hs => by rw [(List.mem_replicate.1 hs).2]; decide
    omega
  refine lfp_ind (fun m t g' n' => ∃ (i : Nat) (A : Arr), m = xs.length - i ∧ i ≤ xs.length ∧ GOt a2 lg i t ∧ Run g g' lg la ls A i ∧ A.way ≤ 1) ?_ (m := xs.length)
    ⟨0, arr0 S W, by simp, by simp, ⟨rfl, rfl, rfl⟩, r0, w00⟩
  rintro I m t g3 n3 hI ⟨i, A, hm, hi, ht, r, hway⟩
  simp only [bellowslaw08_AgentOne_l1, ht.t2, ht.t7, ht.t9]
  refine (h1.mono r.hs).len ?_
  simp only [kBin_lss, kSplit_b, decide_eq_true_eq, decide_eq_false_iff_not]
  refine ⟨fun hlt => ?_, fun hge => wakes08_spec fun n' => aRet_of r.hs (hK _)⟩
  have hlt : i < xs.length := by omega
  have hN : NextG g a2 lg la ls i I := fun t g n A ht ha hw => hI (xs.length - (i + 1)) _ _ _ (by omega) ⟨i + 1, A, rfl, by omega, ht, ha, hw⟩
  have he : xs[i]? = some xs[i] := List.getElem?_eq_getElem hlt
  generalize xs[i] = x at he
  refine (h1.mono r.hs).idx encT_len he (fun l o hat => ?_)
  simp only [kPtr_p]
  refine hat.ldN (encT_len _).symm (newT (fun g6 hs6 hn6 hl10 => ?_))
  have r6 := r.mono hs6
  have hgd := r.gd
  have kL : ∀ {K' : Value → Prop}, K' (.int .i64 x.line) → kLd g6 n3 (0 + 1) K' := fun k => kLd_of hl10 rfl k
  have kW : ∀ {K' : Value → Prop}, K' (.int .i64 x.word) → kLd g6 n3 (0 + 2) K' := fun k => kLd_of hl10 rfl k
  have kV : ∀ {K' : Value → Prop}, K' (.int .u64 x.val) → kLd g6 n3 (0 + 3) K' := fun k => kLd_of hl10 rfl k
  refine Idle_spec r6.gd.ok r6.ag (fun n7 => ?_)
  refine kLd_of hl10 (v := .int .i64 x.kind) rfl ?_
  simp only [kBin_eql, kSplit_b, decide_eq_true_eq, decide_eq_false_iff_not]
  refine ⟨fun _ => kL (kW ?_), fun _ => ⟨fun _ => kL (kW (kV ?_)), fun _ => ⟨fun _ => ldTm hl10 ?_, fun _ => ⟨fun _ => kL ?_, fun _ => ⟨fun _ => kL ?_, fun _ => ?_⟩⟩⟩⟩⟩
  · refine r6.load hla hls (by omega) (A' := (A.load x.line x.word).2) rfl rfl rfl (fun v8 g8 n8 r8 o8 => ?_)
    simp only [kExtract_t, kGet_zero, kGet_succ]
    exact GO_j2 P (by omega) hN ⟨ht.t2, ht.t7, ht.t9⟩ r8 (One.load hgd.ok hgd.wf hway _ _) o8.sl rfl
  · refine r6.store hla hls (by omega) (A' := (A.store x.line x.word x.val).2) rfl rfl (fun v8 g8 n8 r8 o8 => ?_)
    simp only [kExtract_t, kGet_zero, kGet_succ]
    exact GO_j2 P (by omega) hN ⟨ht.t2, ht.t7, ht.t9⟩ r8 (One.store hgd.ok hgd.wf hway _ _ _) o8.sl rfl
  · refine r6.hear hla hls (by omega) (A' := (A.hear x.m).2.1) rfl (fun v8 g8 n8 r8 o8 => ?_)
    exact GO_j2 P (by omega) hN (ms := []) (A := A) ⟨ht.t2, ht.t7, ht.t9⟩ r8 (One.no (way_hear hgd.ok hgd.wf hway _)) Sl.nil rfl
  · refine r6.evict hla hls (by omega) (A' := (A.evict x.line).2.1) rfl (fun v8 g8 n8 r8 o8 => ?_)
    simp only [kExtract_t, kGet_zero, kGet_succ]
    exact GO_j2 P (by omega) hN ⟨ht.t2, ht.t7, ht.t9⟩ r8 (One.evict hgd.ok hgd.wf hway _) o8.sl rfl
  · refine r6.reach hla hls (by omega) (A' := (A.reach x.line).2) rfl (fun v8 g8 n8 r8 o8 => ?_)
    exact GO_j2 P (by omega) hN ⟨ht.t2, ht.t7, ht.t9⟩ r8 (One.reach hgd.ok hgd.wf hway _) o8.sl rfl
  · exact GO_j2 P (by omega) hN (ms := []) (A := A) ⟨ht.t2, ht.t7, ht.t9⟩ ⟨r6.hs, r6.ag, r6.gd.le (by omega)⟩ (One.no hway) Sl.nil rfl
end Go.Proofs.Ytncodeibkmekmab.Gen

namespace Go.Proofs.Ytncodeibkmekmab.Gen
open Go Go.Proofs.Ytncodeibkmekmab.Abs Go.RowKit
variable {g : G} {n : Nat}
theorem there_spec {a b : Int} {K : Cont} (hK : ∀ n', K (.bool (isW a b)) g n') : AC bellowsref08_there_id [.int .i64 a, .int .i64 b] g n K := by
  refine ACalls.fold X0_mono ?_
  rw [← bellowsref08_there_eq]
  simp only [bellowsref08_there, kBin_geq, kBin_leq, kSplit_b, decide_eq_true_eq, decide_eq_false_iff_not]
  have no : ¬ (0 ≤ a ∧ a < 64 ∧ 0 ≤ b ∧ b < 8) → aRet K (.bool false) g n := fun h => by
    have k := hK n
    unfold isW at k
    rw [decide_eq_false h] at k
    exact aRet_of (Sub.refl _) k
  refine ⟨fun h1 => ⟨fun h2 => ⟨fun h3 => aRet_of (Sub.refl _) ?_, fun h3 => no (by omega)⟩, fun h2 => no (by omega)⟩, fun h1 => no (by omega)⟩
  have k := hK n
  unfold isW at k
  rw [show decide (0 ≤ a ∧ a < 64 ∧ 0 ≤ b ∧ b < 8) = decide (b ≤ 7) from by rw [decide_eq_decide]; omega] at k
  exact k
theorem rSlot_spec {A : Arr} {lg la ls : Nat} {line : Int} (hok : A.ok) (hw : A.wf) (hh : AgH g lg la ls A) {K : Cont} (hK : ∀ n', K (.agg (encS (A.slot line)).toArray) g n') : AC bellowsref08_Agent_Slot_id [ptr lg 0, .int .i64 line] g n K := by
  refine ACalls.fold X0_mono ?_
  rw [← bellowsref08_Agent_Slot_eq]
  simp only [bellowsref08_Agent_Slot, kNil_p, kPtr_p]
  refine newZ (fun g1 hs hn hl4 => ?_)
  have hh1 := hh.mono hs
  refine ldA hh1 (refAt_spec hok hh1.arr (fun n2 => ?_))
  rw [refAt_eq hok hw]
  cases ha : A.at line with
  | none =>
    have e : A.slot line = zeroS := by unfold Arr.slot Arr.find; rw [ha]
    rw [e] at hK
    simp only [Option.map_none, idxV, kBin_geq]
    refine kSplit_f rfl ?_
    simp only [kFill_nil, kAgg_a]
    refine ⟨rfl, kStN_of hl4 rfl (Nat.le_refl 11) (encS_cell zeroS) ?_⟩
    exact ldS (x := zeroS) (upd_same _ _ _) (aRet_of (hs.upd_fresh _ hn) (hK _))
  | some k =>
    obtain ⟨hl, hk⟩ := Arr.at_lt hok ha
    have hsl := Arr.slotAt_get hok hl hk
    rw [← slot_of ha] at hsl
    simp only [Option.map_some, idxV, kBin_geq]
    refine kSplit_t (by rw [decide_eq_true_eq]; omega) (ldA hh1 ?_)
    simp only [kNil_p, kPtr_p]
    refine ldRow hh1.arr ((row_sl hok hh1.arr).idx encS_len hsl (fun l o hat => ?_))
    simp only [kPtr_p]
    refine hat.ldN (encS_len _).symm ?_
    simp only [kAgg_a]
    refine ⟨encS_len _, kStN_of hl4 rfl (by rw [encS_len, encS_len]; decide) (encS_cell _) ?_⟩
    rw [splice_all (by rw [encS_len, encS_len])]
    exact ldS (x := A.slot line) (upd_same _ _ _) (aRet_of (hs.upd_fresh _ hn) (hK _))
theorem rOwns_spec {A : Arr} {lg la ls : Nat} {line : Int} (hok : A.ok) (hw : A.wf) (hh : AgH g lg la ls A) {K : Cont} (hK : ∀ n', K (.bool (A.owns line)) g n') : AC bellowsref08_Agent_Owns_id [ptr lg 0, .int .i64 line] g n K := by
  refine ACalls.fold X0_mono ?_
  rw [← bellowsref08_Agent_Owns_eq]
  simp only [bellowsref08_Agent_Owns]
  refine rSlot_spec hok hw hh (fun n1 => ?_)
  simp only [kAgg_a, kPart]
  refine kGet_of (encS_0 _) ?_
  simp only [kBin_eql, kSplit_b, decide_eq_true_eq, decide_eq_false_iff_not]
  have k := hK n1
  unfold Arr.owns at k
  refine ⟨fun h => aRet_of (Sub.refl _) ?_, fun h => aRet_of (Sub.refl _) ?_⟩
  · rw [decide_eq_true (.inl h)] at k; exact k
  · rw [show decide ((A.slot line).state = 2 ∨ (A.slot line).state = 3) = decide ((A.slot line).state = 3) from by rw [decide_eq_decide]; omega] at k
    exact k
theorem rIdle_spec {A : Arr} {lg la ls : Nat} (hok : A.ok) (hw : A.wf) (hh : AgH g lg la ls A) {K : Cont} (hK : ∀ n', K (.bool A.idle) g n') : AC bellowsref08_Agent_Idle_id [ptr lg 0] g n K := by
  refine ACalls.fold X0_mono ?_
  rw [← bellowsref08_Agent_Idle_eq]
  simp only [bellowsref08_Agent_Idle]
  have h64 := Arr.len64 hok
  have hsl := row_sl hok hh.arr
  refine lfp_ind (fun m t g' n' => g' = g ∧ ∃ i : Nat, m = A.l.length - i ∧ i ≤ A.l.length ∧ t 0 = ptr lg 0 ∧ t 3 = .int .i64 i ∧ (∀ s ∈ A.l.take i, ¬ upB s = true)) ?_ (m := A.l.length) ⟨rfl, 0, by simp, by simp, rfl, rfl, by simp⟩
  rintro I m t g1 n1 hI ⟨rfl, i, hm, hi, t0, t3, hp⟩
  simp only [bellowsref08_Agent_Idle_l1, t0, t3, kNil_p, kPtr_p]
  refine ldA hh ?_
  simp only [kNil_p, kPtr_p]
  refine ldRow hh.arr (hsl.len ?_)
  simp only [kBin_lss, kSplit_b, decide_eq_true_eq, decide_eq_false_iff_not]
  refine ⟨fun hlt => ldA hh ?_, fun hge => ?_⟩
  · have hlt : i < A.l.length := by omega
    have he : A.l[i]? = some A.l[i] := List.getElem?_eq_getElem hlt
    generalize A.l[i] = s at he
    simp only [kNil_p, kPtr_p]
    refine ldRow hh.arr (hsl.idx encS_len he (fun l o hat => ?_))
    simp only [kPtr_p]
    refine hat.ld (encS_0 s) ?_
    simp only [kBin_gtr, kSplit_b, decide_eq_true_eq, decide_eq_false_iff_not, kBin_add]
    refine ⟨fun h3 => aRet_of (Sub.refl _) ?_, fun h3 => ?_⟩
    · have : A.idle = false := by
        cases h : A.idle with
        | false => rfl
        | true =>
          have h0 := (idle_way hw).1 h
          have := way_pos he (by unfold upB; rw [decide_eq_true_eq]; exact h3)
          omega
      have k := hK n1
      rw [this] at k; exact k
    · rw [wrapNat (by omega)]
      refine hI (A.l.length - (i + 1)) _ _ _ (by omega) ⟨rfl, i + 1, rfl, by omega, t0, rfl, ?_⟩
      intro y hy
      rw [take_add he] at hy
      rcases List.mem_append.1 hy with hy | hy
      · exact hp y hy
      · simp at hy; subst hy; unfold upB; rw [decide_eq_true_eq]; exact h3
  · have : i = A.l.length := by omega
    subst this
    rw [List.take_length] at hp
    have : A.idle = true := (idle_way hw).2 (List.countP_eq_zero.2 hp)
    have k := hK n1
    rw [this] at k
    exact aRet_of (Sub.refl _) k
theorem one_spec {a b : Int} {K : Cont} (hK : ∀ v' g' n', Sub g g' → Sl encM 12 g' v' [⟨a, b, false, false, zeroL⟩] → (∀ l, blkOf v' = some l → g l = none) → K v' g' n') : AC bellowsref08_one_id [.int .i64 a, .int .i64 b] g n K := by
  refine ACalls.fold X0_mono ?_
  rw [← bellowsref08_one_eq]
  simp only [bellowsref08_one]
  refine kFill_m2 (kFill_M ?_)
  intro hn
  refine aRet_of (Sub.refl _) (hK _ _ _ ((Sub.refl g).new hn _) (Sl.one (encM_len _) (upd_same _ _ _)) ?_)
  intro l hl; cases hl; exact hn
theorem rout_spec {A : Arr} {lg la ls : Nat} {line : Int} (hok : A.ok) (hw : A.wf) (hu : A.used < 100000) (hh : AgH g lg la ls A) (hline : (A.slot line).line = line) {K : Cont}
    (hK : ∀ v' g' n', Out g g' lg la ls (A.out (A.slot line)).2 v' (A.out (A.slot line)).1 → K v' g' n') :
    AC bellowsref08_Agent_out_id [ptr lg 0, .int .i64 line] g n K := by
  refine ACalls.fold X0_mono ?_
  rw [← bellowsref08_Agent_out_eq]
  simp only [bellowsref08_Agent_out]
  refine rSlot_spec hok hw hh (fun n1 => ?_)
  generalize A.slot line = s at *
  refine newS (s := s) (fun g1 hs1 hn hl3 => kFill_m2 (newM (fun g3 hs3 hn5 hl5 => ?_)))
  have hsg := hs1.trans hs3
  have hl3' := hs3.live hl3
  have hne : n1 + 1 ≠ n1 := by omega
  have j1 : ∀ (t : Env) (g5 : G) (n5 : Nat), Sub g g5 → g5 n1 = some (.cells (encS s) .exact) → g5 (n1 + 1) = some (.cells (encM (outM s)) .exact) → t 0 = ptr lg 0 → t 1 = .int .i64 line → t 5 = ptr n1 0 → t 6 = ptr (n1 + 1) 0 → t 7 = .int .i64 (outSt s) → bellowsref08_Agent_out_j1 AC K t g5 n5 := by
    intro t g5 n5 hs5 hl3 hl5 t0 t1 t5 t6 t7
    have hh5 := hh.mono hs5
    simp only [bellowsref08_Agent_out_j1, t0, t1, t5, t6, t7, kNil_p, kPtr_p]
    refine ldA hh5 (ldSd hl3 ?_)
    rw [← hline]
    refine refSet_spec (d := s.data) hok hw hu hh5.arr (fun g6 n6 hs6 hh6 => ?_)
    have hla := ne_of_live hh.arr.obj (hs1.none hn5)
    have hls := ne_of_live hh.arr.row (hs1.none hn5)
    refine ldM (hs6.live (hide_live hla hls hl5)) (kFill_M ?_)
    intro hn7
    exact aRet_of (Sub.refl _) (hK _ _ _ (Out.one hh hs5 hs6 hh6 hn7))
  refine ldS0 hl3' ?_
  simp only [kBin_eql, kSplit_b, decide_eq_true_eq, decide_eq_false_iff_not]
  have hng : g (n1 + 1) = none := hs1.none hn5
  refine ⟨fun h3 => ?_, fun h3 => ?_⟩
  · refine ldSd hl3' ?_
    refine kSt_of hl5 rfl (by rw [encM_len]; decide) rfl ?_
    refine ⟨upd_ne _ _ (fun e => hne e.symm), encL_len _, ?_⟩
    refine stMd (m := ⟨3, line, true, false, zeroL⟩) (upd_same _ _ _) ?_
    refine j1 _ _ _ ((hsg.upd_fresh _ hng).upd_fresh _ hng) ?_ ?_ rfl rfl rfl rfl ?_
    · rw [upd_ne _ _ (fun e => hne e.symm), upd_ne _ _ (fun e => hne e.symm)]; exact hl3'
    · rw [upd_same]; unfold outM; rw [decide_eq_true h3, if_pos h3, hline]
    · unfold outSt; rw [if_pos h3]; rfl
  · refine j1 _ _ _ hsg hl3' ?_ rfl rfl rfl rfl ?_
    · rw [hl5]; unfold outM; rw [decide_eq_false h3, if_neg h3, hline]
    · unfold outSt; rw [if_neg h3]; rfl
theorem Out.of_one {g g2 g3 : G} {lg la ls : Nat} {A A' : Arr} {v : Value} {ms : List Ms} (hh : AgH g lg la ls A) (hs2 : Sub (hide g la ls) g2) (hh2 : ArrH g2 la ls A') (hs3 : Sub g2 g3) (hsl : Sl encM 12 g3 v ms) (hfr : ∀ l, blkOf v = some l → g2 l = none) : Out g g3 lg la ls A' v ms :=
  ⟨hs2.trans hs3, (hh.next hs2 hh2).mono hs3, hsl, fun l hl => by
    have h1 := hfr l hl
    cases hgl : g l with
    | none => rfl
    | some b =>
      have n1 := ne_of_live hh2.obj h1
      have n2 := ne_of_live hh2.row h1
      have := hs2.live (hide_live n1 n2 hgl)
      rw [h1] at this; cases this⟩
theorem vic_slot {A : Arr} (hok : A.ok) (hw : A.wf) {line : Int} (hl : 0 ≤ line) (hf : (A.free line).isSome = false) (hv : 0 ≤ lineOf (vicScan (A.part line) none)) : (A.slot (lineOf (vicScan (A.part line) none))).line = lineOf (vicScan (A.part line) none) := by
  have er := room_ref hw hl
  rw [hf] at er
  rcases room_cases hok hw hl with e | e | ⟨s, _, hr, e, hs0, _, hhs⟩
  · rw [er] at e; cases e
  · rw [er] at e
    have : lineOf (vicScan (A.part line) none) = -1 := (Prod.mk.inj e).2
    omega
  · rw [er] at e
    have e2 : lineOf (vicScan (A.part line) none) = s.line := (Prod.mk.inj e).2
    rw [e2]
    have hf := (hhs.find hok hw).1
    unfold Arr.slot
    rw [hf]
theorem miss_spec {A : Arr} {lg la ls : Nat} {line state kind : Int} (hok : A.ok) (hw : A.wf) (hu : A.used < 100000) (hh : AgH g lg la ls A) (hl : 0 ≤ line) (h6 : state ≠ 6) {K : Cont}
    (hK : ∀ v' g' n', Out g g' lg la ls (A.ask line state kind zeroL).2 v' (A.ask line state kind zeroL).1 → K v' g' n') :
    AC bellowsref08_Agent_miss_id [ptr lg 0, .int .i64 line, .int .i64 state, .int .i64 kind] g n K := by
  refine ACalls.fold X0_mono ?_
  rw [← bellowsref08_Agent_miss_eq]
  simp only [bellowsref08_Agent_miss]
  refine rIdle_spec hok hw hh (fun n1 => ?_)
  simp only [kUn_not, kSplit_b, Bool.not_eq_true', Bool.not_eq_false']
  refine ⟨fun hi => ?_, fun hi => ?_⟩
  · have e : A.ask line state kind zeroL = ([], A) := by unfold Arr.ask; rw [if_pos hi]
    rw [e] at hK
    exact aRet_of (Sub.refl _) (hK _ _ _ (Out.nil hh))
  have hi' : ¬ A.idle = false := by rw [hi]; decide
  have er := room_ref hw hl
  simp only [kNil_p, kPtr_p]
  refine ldA hh (refFree_spec hok hh.arr hl (fun n2 => ?_))
  cases hf : A.free line with
  | some q =>
    rw [hf] at er
    have e : A.ask line state kind zeroL = ([⟨kind, line, false, false, zeroL⟩], (A.set line state zeroL).2) := by unfold Arr.ask; rw [if_neg hi', er]; simp
    rw [e] at hK
    simp only [Option.map_some, idxV, kBin_geq]
    refine kSplit_t (by rw [decide_eq_true_eq]; omega) (ldA hh ?_)
    simp only [kFill_nil]
    refine refSet_spec (d := zeroL) hok hw hu hh.arr (fun g3 n3 hs3 hh3 => ?_)
    exact one_spec (fun v' g' n' hs' hsl hfr => aRet_of (Sub.refl _) (hK _ _ _ (Out.of_one hh hs3 hh3 hs' hsl hfr)))
  | none =>
    rw [hf] at er
    simp only [Option.map_none, idxV, kBin_geq]
    refine kSplit_f rfl (ldA hh (refVictim_spec hok hh.arr hl (fun n3 => ?_)))
    simp only [kBin_geq, kSplit_b, decide_eq_true_eq, decide_eq_false_iff_not]
    refine ⟨fun hv => ?_, fun hv => ?_⟩
    · have e : A.ask line state kind zeroL = A.out (A.slot (lineOf (vicScan (A.part line) none))) := by
        unfold Arr.ask; rw [if_neg hi', er]
        show (if state ≠ 6 ∧ false = false then _ else _) = _
        rw [if_pos ⟨h6, rfl⟩]
        exact if_neg (by show ¬ lineOf _ < 0; omega)
      rw [e] at hK
      exact rout_spec hok hw hu hh (vic_slot hok hw hl (by rw [hf]; rfl) hv) (fun v' g' n' ho => aRet_of (Sub.refl _) (hK _ _ _ ho))
    · have e : A.ask line state kind zeroL = ([], A) := by
        unfold Arr.ask; rw [if_neg hi', er]
        show (if state ≠ 6 ∧ false = false then _ else _) = _
        rw [if_pos ⟨h6, rfl⟩]
        exact if_pos (by show lineOf _ < 0; omega)
      rw [e] at hK
      exact aRet_of (Sub.refl _) (hK _ _ _ (Out.nil hh))
theorem rReach_spec {A : Arr} {lg la ls : Nat} {line : Int} (hok : A.ok) (hw : A.wf) (hu : A.used < 100000) (hh : AgH g lg la ls A) {K : Cont}
    (hK : ∀ v' g' n', Out g g' lg la ls (A.reach line).2 v' (A.reach line).1 → K v' g' n') : AC bellowsref08_Agent_Reach_id [ptr lg 0, .int .i64 line] g n K := by
  refine ACalls.fold X0_mono ?_
  rw [← bellowsref08_Agent_Reach_eq]
  simp only [bellowsref08_Agent_Reach]
  refine there_spec (fun n1 => ?_)
  simp only [kUn_not, kSplit_b, Bool.not_eq_true', Bool.not_eq_false']
  refine ⟨fun hi => ?_, fun hi => rOwns_spec hok hw hh (fun n2 => ?_)⟩
  · have e : A.reach line = ([], A) := by unfold Arr.reach; rw [if_pos (.inl hi)]
    rw [e] at hK
    exact aRet_of (Sub.refl _) (hK _ _ _ (Out.nil hh))
  have hl := isW_line hi
  simp only [kSplit_b]
  refine ⟨fun ho => ?_, fun ho => rIdle_spec hok hw hh (fun n3 => ?_)⟩
  · have e : A.reach line = ([], A) := by unfold Arr.reach; rw [if_pos (.inr ho)]
    rw [e] at hK
    exact aRet_of (Sub.refl _) (hK _ _ _ (Out.nil hh))
  have hc : ¬ (isW line 0 = false ∨ A.owns line = true) := by rw [hi, ho]; decide
  simp only [kUn_not, kSplit_b, Bool.not_eq_true', Bool.not_eq_false']
  refine ⟨fun hid => ?_, fun hid => rSlot_spec hok hw hh (fun n4 => newS (s := A.slot line) (fun g4 hs4 hn4 hl5 => ldS0 hl5 ?_))⟩
  · have e : A.reach line = ([], A) := by
      unfold Arr.reach; rw [if_neg hc]
      split <;> (unfold Arr.ask; rw [if_pos hid])
    rw [e] at hK
    exact aRet_of (Sub.refl _) (hK _ _ _ (Out.nil hh))
  have hi' : ¬ A.idle = false := by rw [hid]; decide
  have hh4 := hh.mono hs4
  simp only [kBin_eql, kSplit_b, decide_eq_true_eq, decide_eq_false_iff_not]
  refine ⟨fun h1 => ?_, fun h1 => ?_⟩
  · have e : A.reach line = ([⟨2, line, false, false, zeroL⟩], (A.set line 6 (A.slot line).data).2) := by
      unfold Arr.reach; rw [if_neg hc, if_pos h1]
      unfold Arr.ask; rw [if_neg hi', if_neg (fun h => h.1 rfl)]
    rw [e] at hK
    simp only [kNil_p, kPtr_p]
    refine ldA hh4 (ldSd hl5 ?_)
    refine refSet_spec (d := (A.slot line).data) hok hw hu hh4.arr (fun g5 n5 hs5 hh5 => ?_)
    exact one_spec (fun v' g' n' hs' hsl hfr => aRet_of (Sub.refl _) (hK _ _ _ ((Out.of_one hh4 hs5 hh5 hs' hsl hfr).of hs4)))
  · have e : A.reach line = A.ask line 5 2 zeroL := by unfold Arr.reach; rw [if_neg hc, if_neg h1]
    rw [e] at hK
    exact miss_spec hok hw hu hh4 hl (by decide) (fun v' g' n' ho => aRet_of (Sub.refl _) (hK _ _ _ (ho.of hs4)))
theorem rEvict_spec {A : Arr} {lg la ls : Nat} {line : Int} (hok : A.ok) (hw : A.wf) (hu : A.used < 100000) (hh : AgH g lg la ls A) {K : Cont}
    (hK : ∀ v' g' n', Out g g' lg la ls (A.evict line).2.1 v' (A.evict line).1 → K (.tuple #[v', .int .i64 (A.evict line).2.2]) g' n') : AC bellowsref08_Agent_Evict_id [ptr lg 0, .int .i64 line] g n K := by
  refine ACalls.fold X0_mono ?_
  rw [← bellowsref08_Agent_Evict_eq]
  simp only [bellowsref08_Agent_Evict]
  refine rIdle_spec hok hw hh (fun n1 => ?_)
  simp only [kUn_not, kSplit_b, Bool.not_eq_true', Bool.not_eq_false']
  refine ⟨fun hi => ?_, fun hi => rSlot_spec hok hw hh (fun n2 => ?_)⟩
  · have e : A.evict line = ([], A, 15) := by unfold Arr.evict; rw [if_pos hi]
    rw [e] at hK
    exact aRet_of (Sub.refl _) (hK _ _ _ (Out.nil hh))
  have hi' : ¬ A.idle = false := by rw [hi]; decide
  simp only [kAgg_a, kPart]
  refine kGet_of (encS_0 _) ?_
  simp only [kBin_eql, kSplit_b, decide_eq_true_eq, decide_eq_false_iff_not]
  refine ⟨fun h0 => ?_, fun h0 => ?_⟩
  · have e : A.evict line = ([], A, 14) := by unfold Arr.evict; rw [if_neg hi', if_pos h0]
    rw [e] at hK
    exact aRet_of (Sub.refl _) (hK _ _ _ (Out.nil hh))
  · have e : A.evict line = ((A.out (A.slot line)).1, (A.out (A.slot line)).2, 0) := by unfold Arr.evict; rw [if_neg hi', if_neg h0]
    rw [e] at hK
    have hline : (A.slot line).line = line := by
      obtain ⟨k, ha, he⟩ := slot_at h0
      obtain ⟨t, _, _, hl, hst⟩ := Arr.at_some hok ha
      rw [← he, hst, hl]
    exact rout_spec hok hw hu hh hline (fun v' g' n' ho => aRet_of (Sub.refl _) (hK _ _ _ ho))
theorem rStore_spec {A : Arr} {lg la ls : Nat} {line word v : Int} (hok : A.ok) (hw : A.wf) (hu : A.used < 100000) (hh : AgH g lg la ls A) {K : Cont}
    (hK : ∀ v' g' n', Out g g' lg la ls (A.store line word v).2 v' (A.store line word v).1 → K (.tuple #[.bool (A.storeHit line word), v']) g' n') :
    AC bellowsref08_Agent_Store_id [ptr lg 0, .int .i64 line, .int .i64 word, .int .u64 v] g n K := by
  refine ACalls.fold X0_mono ?_
  rw [← bellowsref08_Agent_Store_eq]
  simp only [bellowsref08_Agent_Store]
  refine there_spec (fun n1 => ?_)
  simp only [kUn_not, kSplit_b, Bool.not_eq_true', Bool.not_eq_false']
  refine ⟨fun hi => ?_, fun hi => ?_⟩
  · have e0 : A.storeHit line word = false := by unfold Arr.storeHit; rw [hi]; rfl
    have e : A.store line word v = ([], A) := by unfold Arr.store; rw [if_pos hi]
    rw [e0, e] at hK
    exact aRet_of (Sub.refl _) (hK _ _ _ (Out.nil hh))
  have hwd : 0 ≤ word ∧ word < 8 := by
    have := of_decide_eq_true (show decide _ = true from hi); omega
  have hi' : ¬ isW line word = false := by rw [hi]; decide
  refine rOwns_spec hok hw hh (fun n2 => ?_)
  simp only [kSplit_b]
  refine ⟨fun ho => ?_, fun ho => ?_⟩
  · have e0 : A.storeHit line word = true := by unfold Arr.storeHit; rw [ho, hi]; rfl
    have e : A.store line word v = ([], (A.set line 3 ((A.slot line).data.put word.toNat v)).2) := by unfold Arr.store; rw [if_neg hi', if_neg (by rw [ho]; decide)]
    rw [e0, e] at hK
    refine rSlot_spec hok hw hh (fun n3 => ?_)
    simp only [kAgg_a, kPart]
    refine ⟨by rw [encS_len]; decide, ?_⟩
    rw [encS_data]
    refine newL (d := (A.slot line).data) (fun g4 hs4 hn4 hl10 => ?_)
    refine putL hwd hl10 (fun _ _ _ hl7 => ?_)
    have hs7 := hs4.upd_fresh (some (.cells (encL ((A.slot line).data.put word.toNat v)) .exact)) hn4
    generalize upd g4 n3 (some (.cells (encL ((A.slot line).data.put word.toNat v)) .exact)) = g7 at *
    have hh7 := hh.mono hs7
    simp only [kNil_p, kPtr_p]
    refine ldA hh7 (ldL hl7 ?_)
    refine refSet_spec (d := (A.slot line).data.put word.toNat v) hok hw hu hh7.arr (fun g8 n8 hs8 hh8 => ?_)
    refine aRet_of (Sub.refl _) (hK _ _ _ ?_)
    exact ⟨(hide_mono hs7).trans hs8, hh7.next hs8 hh8, Sl.nil, fun l hl => nomatch hl⟩
  · have e0 : A.storeHit line word = false := by unfold Arr.storeHit; rw [ho, Bool.and_false]
    have e : A.store line word v = A.reach line := by unfold Arr.store; rw [if_neg hi', if_pos ho]
    rw [e0, e] at hK
    exact rReach_spec hok hw hu hh (fun v' g' n' h => aRet_of (Sub.refl _) (hK _ _ _ h))
end Go.Proofs.Ytncodeibkmekmab.Gen

namespace Go.Proofs.Ytncodeibkmekmab.Gen
open Go Go.Proofs.Ytncodeibkmekmab.Abs Go.RowKit
variable {g : G} {n : Nat}
theorem Out.upd {g g' : G} {lg la ls l6 : Nat} {A : Arr} {v : Value} {ms : List Ms} (b : Option Blk) (h : Out g g' lg la ls A v ms) (hn : g l6 = none) (h1 : l6 ≠ lg) (h2 : l6 ≠ la) (h3 : l6 ≠ ls) (hv : ∀ l, blkOf v = some l → l ≠ l6) :
    Out g (Abs.upd g' l6 b) lg la ls A v ms :=
  ⟨h.hs.upd_fresh b ((hide_sub g la ls).none hn), ⟨by rw [upd_ne _ _ (fun e => h1 e.symm)]; exact h.ag.obj, ⟨by rw [upd_ne _ _ (fun e => h2 e.symm)]; exact h.ag.arr.obj, by show Abs.upd g' l6 b ls = _; rw [upd_ne _ _ (fun e => h3 e.symm)]; exact h.ag.arr.row, h.ag.arr.ne⟩, h.ag.n1, h.ag.n2⟩,
    h.sl.keep (fun l bb hg hb => by rw [upd_ne _ _ (hv l hb)]; exact hg), h.fr⟩
/-- what a load leaves is laid into its place, and read -/
theorem retL {l6 : Nat} {cs : List Value} {a : Int} {h : Bool} {v : Value} {K : Cont} (hl : g l6 = some (.cells cs .exact)) (hc : cs.length = 3) (hv : isCell v = true) (k : ∀ b, K (.agg [.int .u64 a, .bool h, v].toArray) (upd g l6 b) n) :
    kAgg (.agg [.int .u64 a, .bool h, v].toArray) fun cg => cg.length = 3 ∧ kStN g l6 0 cg fun g8 => kLdN g8 l6 0 3 fun r0 => aRet K (.agg r0.toArray) g8 n := by
  simp only [kAgg_a]
  refine ⟨rfl, kStN_of hl rfl (by rw [hc]; exact Nat.le_refl 3) (by intro x hx; simp at hx; rcases hx with rfl | rfl | rfl; rfl; rfl; exact hv) ?_⟩
  rw [splice_all (by rw [hc]; rfl)]
  refine kLdN_of (upd_same _ _ _) (Nat.le_refl 3) ?_
  exact aRet_of (Sub.refl _) (k _)
theorem sl_cell {α : Type} {enc : α → List Value} {z : Nat} {v : Value} {xs : List α} (h : Sl enc z g v xs) : isCell v = true := by
  obtain ⟨a, c, rfl, _⟩ := h; rfl
theorem rLoad_spec {A : Arr} {lg la ls : Nat} {line word : Int} (hok : A.ok) (hw : A.wf) (hu : A.used < 100000) (hh : AgH g lg la ls A) {K : Cont}
    (hK : ∀ v' g' n', Out g g' lg la ls (A.load line word).2 v' (A.load line word).1 → K (.agg [.int .u64 (A.loadV line word), .bool (A.loadHit line word), v'].toArray) g' n') :
    AC bellowsref08_Agent_Load_id [ptr lg 0, .int .i64 line, .int .i64 word] g n K := by
  refine ACalls.fold X0_mono ?_
  rw [← bellowsref08_Agent_Load_eq]
  simp only [bellowsref08_Agent_Load]
  intro hn
  have hs1 := (Sub.refl g).new hn (some (.cells [.int .u64 0, .bool false, .slice none 0 0] .exact))
  have hl6 := upd_same g n (some (.cells [.int .u64 0, .bool false, .slice none 0 0] .exact))
  have q1 := ne_of_live hh.obj hn
  have q2 := ne_of_live hh.arr.obj hn
  have q3 := ne_of_live hh.arr.row hn
  generalize upd g n (some (.cells [.int .u64 0, .bool false, .slice none 0 0] .exact)) = g1 at *
  have hh1 := hh.mono hs1
  refine there_spec (fun n1 => ?_)
  simp only [kUn_not, kSplit_b, Bool.not_eq_true', Bool.not_eq_false']
  have q0 : ∀ {A' : Arr} {v : Value} {ms : List Ms} {g' : G}, Out g1 g' lg la ls A' v ms → ∀ b, Out g (upd g' n b) lg la ls A' v ms := fun o b => (o.of hs1).upd b hn q1 q2 q3 (fun l hl e => by
    have := o.fr l hl
    rw [e, hl6] at this; cases this)
  have l6 : ∀ {g' : G}, Sub (hide g1 la ls) g' → g' n = some (.cells [.int .u64 0, .bool false, .slice none 0 0] .exact) := fun h => h.live (hide_live q2 q3 hl6)
  refine ⟨fun hi => ?_, fun hi => ?_⟩
  · have e0 : A.loadHit line word = false := by unfold Arr.loadHit; rw [hi]; rfl
    have e1 : A.loadV line word = 0 := by unfold Arr.loadV; rw [e0]; rfl
    have e2 : A.load line word = ([], A) := by unfold Arr.load; rw [if_pos hi]
    rw [e0, e1, e2] at hK
    simp only [kFill_nil]
    exact retL (a := 0) (h := false) hl6 rfl rfl (fun b => hK _ _ _ (q0 (Out.nil hh1) b))
  have hwd : 0 ≤ word ∧ word < 8 := by
    have := of_decide_eq_true (show decide _ = true from hi); omega
  refine rSlot_spec hok hw hh1 (fun n2 => newS (s := A.slot line) (fun g6 hs6 hn6 hl7 => ?_))
  have hh6 := hh1.mono hs6
  have l66 := hs6.live hl6
  have hitE : hitB (A.slot line) = true → A.loadHit line word = true ∧ A.loadV line word = wordAt (A.slot line).data word ∧ A.load line word = ([], A.touch line) := fun hb => by
    have e0 : A.loadHit line word = true := by unfold Arr.loadHit; rw [hb, hi]; rfl
    exact ⟨e0, by unfold Arr.loadV; rw [e0]; rfl, by unfold Arr.load; rw [if_neg (by rw [hi]; decide), e0]; rfl⟩
  have tail : hitB (A.slot line) = true → (kNil (ptr lg 0) fun v35 => kPtr v35 fun l36 o36 => kLd g6 l36 (o36 + 0) fun v37 => AC bellowsref05_Array_Touch_id [v37, .int .i64 line] g6 (n2 + 1) fun v39 g7 n39 =>
      kIndexArr (ptr n2 (0 + 2)) (.int .i64 word) 8 1 fun v42 => kPtr v42 fun l43 o43 => kLd g7 l43 o43 fun v43 => kFill [(.int .u64 0), (.bool false), (.slice none 0 0)] [(0, none, v43), (1, none, (.bool true))] fun c44 =>
      kAgg (.agg c44.toArray) fun cg8 => cg8.length = 3 ∧ kStN g7 n 0 cg8 fun g8 => kLdN g8 n 0 3 fun r0 => aRet K (.agg r0.toArray) g8 n39) := by
    intro hb
    obtain ⟨e0, e1, e2⟩ := hitE hb
    rw [e0, e1, e2] at hK
    simp only [kNil_p, kPtr_p]
    refine ldA hh6 (refTouch_spec hok hw hu hh6.arr (fun g7 n7 hs7 hh7 => ?_))
    refine ⟨hwd.1, hwd.2, ?_⟩
    simp only [kPtr_p]
    have hl7' := hs7.live (hide_live (ne_of_live hh1.arr.obj hn6) (ne_of_live hh1.arr.row hn6) hl7)
    refine kLd_of hl7' (v := .int .u64 (wordAt (A.slot line).data word)) ?_ ?_
    · rw [show 0 + 2 + word.toNat * 1 = 2 + word.toNat by omega]
      exact encS_w _ (by omega)
    · refine ⟨rfl, by simp, rfl, by simp, ?_⟩
      have o1 : Out g1 g7 lg la ls (A.touch line) (.slice none 0 0) [] := ⟨(hide_mono hs6).trans hs7, hh6.next hs7 hh7, Sl.nil, fun l hl => nomatch hl⟩
      exact retL (a := wordAt (A.slot line).data word) (h := true) (l6 o1.hs) rfl rfl (fun b => hK _ _ _ (q0 o1 b))
  have hit : hitB (A.slot line) = true ↔ (A.slot line).state = 1 ∨ (A.slot line).state = 2 ∨ (A.slot line).state = 3 ∨ (A.slot line).state = 6 := by unfold hitB; rw [decide_eq_true_eq]
  refine ldS0 hl7 ?_
  rw [kBin_eql]
  by_cases c1 : (A.slot line).state = 1
  · exact kSplit_t (decide_eq_true c1) (tail (hit.2 (by omega)))
  refine kSplit_f (decide_eq_false c1) (ldS0 hl7 ?_)
  rw [kBin_eql]
  by_cases c2 : (A.slot line).state = 2
  · exact kSplit_t (decide_eq_true c2) (tail (hit.2 (by omega)))
  refine kSplit_f (decide_eq_false c2) (ldS0 hl7 ?_)
  rw [kBin_eql]
  by_cases c3 : (A.slot line).state = 3
  · exact kSplit_t (decide_eq_true c3) (tail (hit.2 (by omega)))
  refine kSplit_f (decide_eq_false c3) (ldS0 hl7 ?_)
  rw [kBin_eql]
  by_cases c6 : (A.slot line).state = 6
  · exact kSplit_t (decide_eq_true c6) (tail (hit.2 (by omega)))
  refine kSplit_f (decide_eq_false c6) (ldS0 hl7 ?_)
  have hb : hitB (A.slot line) = false := by
    cases h : hitB (A.slot line) with
    | false => rfl
    | true => have := hit.1 h; omega
  have e0 : A.loadHit line word = false := by unfold Arr.loadHit; rw [hb, Bool.and_false]
  have e1 : A.loadV line word = 0 := by unfold Arr.loadV; rw [e0]; rfl
  have e2 : A.load line word = A.ask line 4 1 zeroL := by unfold Arr.load; rw [if_neg (by rw [hi]; decide), e0]; rfl
  rw [e0, e1, e2] at hK
  rw [kBin_neq]
  by_cases c0 : (A.slot line).state = 0
  · refine kSplit_f (by rw [decide_eq_false_iff_not]; omega) (miss_spec hok hw hu hh6 (isW_line hi) (by decide) (fun v' g' n' o => ?_))
    have o1 := o.of hs6
    refine ⟨sl_cell o.sl, by simp, ?_⟩
    exact retL (a := 0) (h := false) (l6 o1.hs) rfl (sl_cell o.sl) (fun b => hK _ _ _ (q0 o1 b))
  · refine kSplit_t (by rw [decide_eq_true_eq]; exact c0) ?_
    have hid : A.idle = false := by
      cases h : A.idle with
      | false => rfl
      | true =>
        have h0 := (idle_way hw).1 h
        obtain ⟨k, ha, he⟩ := slot_at c0
        obtain ⟨hl, hk⟩ := Arr.at_lt hok ha
        have ht := Arr.slotAt_get hok hl hk
        rw [he] at ht
        have hst := slot_state hok hw line
        have := way_pos ht (by unfold upB; rw [decide_eq_true_eq]; omega)
        omega
    have e3 : A.ask line 4 1 zeroL = ([], A) := by unfold Arr.ask; rw [if_pos hid]
    rw [e3] at hK
    simp only [kFill_nil]
    exact retL (a := 0) (h := false) l66 rfl rfl (fun b => hK _ _ _ (q0 ((Out.nil hh6).of hs6) b))

/-! messages: the document's forms -/
theorem rTells_spec {x : Int} {K : Cont} (hK : ∀ n', K (.bool (tellsB x)) g n') : AC bellowsref06_Tells_id [.int .i64 x] g n K := by
  refine ACalls.fold X0_mono ?_
  rw [← bellowsref06_Tells_eq]
  unfold tellsB at hK
  simp only [bellowsref06_Tells, kBin_geq, kBin_leq, kSplit_b, decide_eq_true_eq, decide_eq_false_iff_not]
  refine ⟨fun h => aRet_of (Sub.refl _) ?_, fun h => aRet_of (Sub.refl _) ?_⟩
  · have k := hK n
    rw [show decide (8 ≤ x ∧ x ≤ 14) = decide (x ≤ 14) from by rw [decide_eq_decide]; omega] at k
    exact k
  · have k := hK n
    rw [decide_eq_false (by omega)] at k
    exact k
theorem rAsks_spec {x : Int} {K : Cont} (hK : ∀ n', K (.bool (decide (1 ≤ x ∧ x ≤ 5))) g n') : AC bellowsref06_Asks_id [.int .i64 x] g n K := by
  refine ACalls.fold X0_mono ?_
  rw [← bellowsref06_Asks_eq]
  simp only [bellowsref06_Asks, kBin_geq, kBin_leq, kSplit_b, decide_eq_true_eq, decide_eq_false_iff_not]
  refine ⟨fun h => aRet_of (Sub.refl _) ?_, fun h => aRet_of (Sub.refl _) ?_⟩
  · have k := hK n
    rw [show decide (1 ≤ x ∧ x ≤ 5) = decide (x ≤ 5) from by rw [decide_eq_decide]; omega] at k
    exact k
  · have k := hK n
    rw [decide_eq_false (by omega)] at k
    exact k
theorem rAnswers_spec {x : Int} {K : Cont} (hK : ∀ n', K (.bool (decide (x = 6 ∨ x = 7))) g n') : AC bellowsref06_Answers_id [.int .i64 x] g n K := by
  refine ACalls.fold X0_mono ?_
  rw [← bellowsref06_Answers_eq]
  simp only [bellowsref06_Answers, kBin_eql, kSplit_b, decide_eq_true_eq, decide_eq_false_iff_not]
  refine ⟨fun h => aRet_of (Sub.refl _) ?_, fun h => aRet_of (Sub.refl _) ?_⟩
  · have k := hK n
    rw [decide_eq_true (.inl h)] at k; exact k
  · have k := hK n
    rw [show decide (x = 6 ∨ x = 7) = decide (x = 7) from by rw [decide_eq_decide]; omega] at k
    exact k
end Go.Proofs.Ytncodeibkmekmab.Gen
