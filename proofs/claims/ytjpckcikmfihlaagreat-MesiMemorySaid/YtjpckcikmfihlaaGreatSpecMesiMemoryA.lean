import Derived.Laws.LoneSync
import Derived.LoopIn
import Derived.LoopNIn
import Derived.OwnWalkIn
import Derived.RangeFuncBound
import Derived.RangeFuncCalls
import Derived.RangeFuncLeaves
import Derived.RangeFuncNested
import Derived.RegionCalls
import Derived.RegionTactic
import Derived.Shelf.Abstract
import Derived.Shelf.RegionOpen
import Derived.TacticsInMore
import Derived.WalkKit
import Derived.Test.YtjpckcikmfihlaaGreatGenMesiMemory
/- What the functions come to. -/
set_option linter.all false
set_option linter.deprecated false
namespace Go.Proofs.YtjpckcikmfihlaaGreat.Gen
open Go Go.Proofs.YtjpckcikmfihlaaGreat.Abs Go.RowKit Go.Shelf
attribute [local go_sem] Oper.semAt_some
/-! slices.Backward over entries, on the concrete side -/
def downto (len k : Nat) : List Nat := (List.range k).map fun j => len - 1 - j
theorem downto_succ (len k : Nat) : downto len (k + 1) = downto len k ++ [len - 1 - k] := by simp [downto, List.range_succ]
theorem downto_len (len k : Nat) : (downto len k).length = k := by simp [downto]
def elem9 (L : Nat → Int) (E : Nat → Nat → Value) (j : Nat) : Value := .agg #[.int .i64 (L j), E j 0, E j 1, E j 2, E j 3, E j 4, E j 5, E j 6, E j 7]
set_option maxRecDepth 100000 in
set_option maxHeartbeats 2000000 in
theorem back1_in (F : Fence) (n : Nat) (h7 : F.fn 212) (hro : F.round = none) (hn : 1 ≤ n) (l Bs n₀ sb so len cap : Nat) (a : Option Addr) (L : Nat → Int) (E : Nat → Nat → Value) (hlen : len < 1099511627776) (ha : 0 < len → a = some ⟨sb, so, none⟩) (hb : 0 < len → sb < n₀) (J Jx : List Nat → World → Prop)
    (hY : ∀ pre x W, J pre W → pre.length < len → YieldAt F (n - 1) Tryz.prog l #[.int .i64 (x : Nat), elem9 L E x] W fun e W' =>
      (e = .returned (.bool true) ∧ J (pre ++ [x]) W' ∧ Below n₀ W W') ∨ (e = .returned (.bool false) ∧ Jx (pre ++ [x]) W'))
    (W : World) (hBs : W.cell? ⟨Bs, 0, none⟩ = some (.slice a len cap)) (hBn : Bs < n₀)
    (hL : ∀ j, j < len → W.cell? ⟨sb, so + j * 9, none⟩ = some (.int .i64 (L j))) (hE : ∀ j i, j < len → i < 8 → W.cell? ⟨sb, so + j * 9 + 1 + i, none⟩ = some (E j i)) (h0 : J [] W) :
    CallsIn F n Tryz.prog 212 #[.func (.yield l) #[] #[], .pointer (some ⟨Bs, 0, none⟩)] W fun e W' => (∃ v, e = .returned v) ∧
      ((∃ ys, ys = downto len len ∧ J ys W') ∨ (∃ pre, (∃ k, k ≤ len ∧ pre = downto len k) ∧ Jx pre W')) := by
  refine callsIn_of_wp Tryz.func212 rfl h7 ?_ hro
  simp only [Tryz.ntmps212, List.size_toArray, List.length_cons, List.length_nil, Nat.reduceAdd, Nat.reduceSub, Array.replicate_succ, Array.replicate_zero, List.push_toArray, List.append_toArray, List.nil_append, List.cons_append]
  gi_wp2
  gi_loopw [3] (fun i wr => ∃ k : Nat, k ≤ len ∧ i = .int .i64 ((len : Int) - 1 - k) ∧ J (downto len k) wr ∧ Below n₀ W wr)
    (fun i _ => (intOf i + 1).toNat)
  case atStart => exact ⟨0, Nat.zero_le _, by simp, h0, Below.refl _ _⟩
  case round =>
    obtain ⟨k, hk, rfl, hJs, hnx⟩ := hrel
    by_cases hlt : k < len
    · have hBs' := (hnx.cell (p := ⟨Bs, 0, none⟩) hBn).trans hBs
      obtain ⟨j, hj⟩ : ∃ j : Nat, (len : Int) - 1 - k = j := ⟨len - 1 - k, by omega⟩
      have hjl : j < len := by omega
      obtain rfl := ha (by omega)
      have hbl := hb (by omega)
      rw [hj]
      obtain ⟨fn, tmps, assign, body, hy, hR⟩ := hY _ j wr hJs (by rw [downto_len]; exact hlt)

      have e0 : wr.cell? ⟨sb, so + j * 9, none⟩ = some (.int .i64 (L j)) := (hnx.cell (p := ⟨sb, so + j * 9, none⟩) hbl).trans (hL j hjl)
      have e1 : wr.cell? ⟨sb, so + j * 9 + 1, none⟩ = some (E j 0) := (hnx.cell (p := ⟨sb, so + j * 9 + 1, none⟩) hbl).trans (by have := hE j 0 hjl (by decide); simpa [Nat.add_assoc] using this)
      have e2 : wr.cell? ⟨sb, so + j * 9 + 2, none⟩ = some (E j 1) := (hnx.cell (p := ⟨sb, so + j * 9 + 2, none⟩) hbl).trans (by have := hE j 1 hjl (by decide); simpa [Nat.add_assoc] using this)
      have e3 : wr.cell? ⟨sb, so + j * 9 + 3, none⟩ = some (E j 2) := (hnx.cell (p := ⟨sb, so + j * 9 + 3, none⟩) hbl).trans (by have := hE j 2 hjl (by decide); simpa [Nat.add_assoc] using this)
      have e4 : wr.cell? ⟨sb, so + j * 9 + 4, none⟩ = some (E j 3) := (hnx.cell (p := ⟨sb, so + j * 9 + 4, none⟩) hbl).trans (by have := hE j 3 hjl (by decide); simpa [Nat.add_assoc] using this)
      have e5 : wr.cell? ⟨sb, so + j * 9 + 5, none⟩ = some (E j 4) := (hnx.cell (p := ⟨sb, so + j * 9 + 5, none⟩) hbl).trans (by have := hE j 4 hjl (by decide); simpa [Nat.add_assoc] using this)
      have e6 : wr.cell? ⟨sb, so + j * 9 + 6, none⟩ = some (E j 5) := (hnx.cell (p := ⟨sb, so + j * 9 + 6, none⟩) hbl).trans (by have := hE j 5 hjl (by decide); simpa [Nat.add_assoc] using this)
      have e7 : wr.cell? ⟨sb, so + j * 9 + 7, none⟩ = some (E j 6) := (hnx.cell (p := ⟨sb, so + j * 9 + 7, none⟩) hbl).trans (by have := hE j 6 hjl (by decide); simpa [Nat.add_assoc] using this)
      have e8 : wr.cell? ⟨sb, so + j * 9 + 8, none⟩ = some (E j 7) := (hnx.cell (p := ⟨sb, so + j * 9 + 8, none⟩) hbl).trans (by have := hE j 7 hjl (by decide); simpa [Nat.add_assoc] using this)
      simp only [elem9] at hy
      gi_wp2
      refine hR.mono ?_
      rintro e W3 (⟨rfl, hJ3, hk3⟩ | ⟨rfl, hJx3⟩)
      · gi_wp2
        go_roundw
        case rel => exact ⟨k + 1, by omega, by simp; omega, by rw [downto_succ, show len - 1 - k = j by omega]; exact hJ3, hnx.trans hk3⟩
        case measure => simp [intOf]
      · gi_wp2
        refine bodyPost_ret (results_none rfl _ _ _) rfl ?_
        exact ⟨⟨_, rfl⟩, .inr ⟨_, ⟨k + 1, by omega, by rw [downto_succ, show len - 1 - k = j by omega]⟩, hJx3⟩⟩
    · obtain rfl : k = len := by omega
      have hBs' := (hnx.cell (p := ⟨Bs, 0, none⟩) hBn).trans hBs
      gi_wp2
      go_end0
      exact ⟨⟨_, rfl⟩, .inl ⟨_, rfl, hJs⟩⟩
set_option maxHeartbeats 1000000 in
theorem back_in (F : Fence) (n : Nat) (h5 : F.fn 199) (hro : F.round = none) (a : Option Addr) (len cap : Nat) (w : World) :
    CallsIn F n Tryz.prog 199 #[.slice a len cap] w fun e w' => e = .returned (.func (.func 212) #[] #[.pointer (some ⟨w.heap.size, 0, none⟩)]) ∧ w' = w.alloc (.cells #[.slice a len cap] 158) := by
  refine callsIn_of_wp Tryz.func199 rfl h5 ?_ hro
  simp only [Tryz.ntmps199, List.size_toArray, List.length_cons, List.length_nil, Nat.reduceAdd, Nat.reduceSub, Array.replicate_succ, Array.replicate_zero, List.push_toArray, List.append_toArray, List.nil_append, List.cons_append]
  gi_wp2
  go_ret
  exact ⟨rfl, rfl⟩
theorem back_stops (F : Fence) (n : Nat) (h7 : F.fn 212) (hro : F.round = none) (hn : 1 ≤ n) (Bs n₀ sb so len cap : Nat) (a : Option Addr) (L : Nat → Int) (E : Nat → Nat → Value) (hlen : len < 1099511627776) (ha : 0 < len → a = some ⟨sb, so, none⟩) (hb : 0 < len → sb < n₀)
    (w : World) (hBs : Bs < w.heap.size) (hBn : Bs < n₀) (hn₀ : n₀ ≤ w.heap.size) (hc : w.cell? ⟨Bs, 0, none⟩ = some (.slice a len cap))
    (hL : ∀ j, j < len → w.cell? ⟨sb, so + j * 9, none⟩ = some (.int .i64 (L j))) (hE : ∀ j i, j < len → i < 8 → w.cell? ⟨sb, so + j * 9 + 1 + i, none⟩ = some (E j i)) :
    SeqStopsK F n Tryz.prog 212 #[.pointer (some ⟨Bs, 0, none⟩)] (fun x : Nat => #[.int .i64 (x : Nat), elem9 L E x]) (Below n₀) (fun ys => ys = downto len len) (fun pre => ∃ k, k ≤ len ∧ pre = downto len k) len w :=
  fun l J Jx W hW _ _ hY h0 => by
    have hc' := (hW.cell (p := ⟨Bs, 0, none⟩) hBs).trans hc
    have hW' := hW.mono hn₀
    exact back1_in F n h7 hro hn l Bs n₀ sb so len cap a L E hlen ha hb J Jx hY W hc' hBn
      (fun j hj => (hW'.cell (p := ⟨sb, so + j * 9, none⟩) (hb (by omega))).trans (hL j hj))
      (fun j i hj hi => (hW'.cell (p := ⟨sb, so + j * 9 + 1 + i, none⟩) (hb (by omega))).trans (hE j i hj hi)) h0
end Go.Proofs.YtjpckcikmfihlaaGreat.Gen

namespace Go.Proofs.YtjpckcikmfihlaaGreat.Gen
open Go Go.Proofs.YtjpckcikmfihlaaGreat.Abs Go.RowKit Go.Shelf
attribute [local go_sem] Oper.semAt_some
set_option maxHeartbeats 1000000 in
theorem dmay_in (F : Fence) (n : Nat) (h5 : F.fn 197) (hro : F.round = none) (db dof m c : Nat) (a : Option Addr) (x : Int) (w : World) (h0 : w.cell? ⟨db, dof, none⟩ = some (.slice a m c)) (hx0 : 0 ≤ x) (hxm : x < m) :
    CallsIn F n Tryz.prog 197 #[.pointer (some ⟨db, dof, none⟩), .int .i64 x] w fun e w' => e = .returned (.int .i64 0) ∧ w' = w := by
  refine callsIn_of_wp Tryz.func197 rfl h5 ?_ hro
  simp only [Tryz.ntmps197, List.size_toArray, List.length_cons, List.length_nil, Nat.reduceAdd, Nat.reduceSub, Array.replicate_succ, Array.replicate_zero, List.push_toArray, List.append_toArray, List.nil_append, List.cons_append]
  gi_wp2
  all_goals first
    | (go_ret; exact ⟨rfl, rfl⟩)
    | (exfalso; omega)
theorem w64 (x : Int) : IntKind.wrap .i64 x = Go.RowKit.wrap64 x := by unfold Go.RowKit.wrap64; exact IntKind.wrap_i64 x
theorem cell_alloc {w : World} {p : Addr} {v : Value} {o : Obj} (h : w.cell? p = some v) : (w.alloc o).cell? p = some v := by
  obtain ⟨o', ho, _⟩ := cells_of_cell h
  exact (World.cell?_of_block (Below.heap_alloc w o p.block (Array.getElem?_eq_some_iff.1 ho).1)).trans h
theorem frozen_alloc {w : World} {p : Addr} {v : Value} {o : Obj} (h : w.cell? p = some v) : (w.alloc o).frozen? p = w.frozen? p := by
  obtain ⟨o', ho, _⟩ := cells_of_cell h
  exact World.frozen?_of_block (Below.heap_alloc w o p.block (Array.getElem?_eq_some_iff.1 ho).1)
theorem cell_set_other (w : World) (b o b' o' : Nat) (v u : Value) (h : w.cell? ⟨b', o', none⟩ = some u) (hne : b' ≠ b ∨ o' ≠ o) : (w.setCell ⟨b, o, none⟩ v).cell? ⟨b', o', none⟩ = some u := by
  rw [World.cell?_setCell_other _ _ _ _ (by simp; omega)]; exact h
set_option maxHeartbeats 1000000 in
theorem add64_in (F : Fence) (n : Nat) (h5 : F.fn 96) (h6 : F.fn 152) (hro : F.round = none) (b off : Nat) (r : Int) (w : World) (hc : w.cell? ⟨b, off, none⟩ = some (.int .i64 r)) (hz : w.frozen? ⟨b, off, none⟩ = false) :
    CallsIn F n Tryz.prog 96 #[.pointer (some ⟨b, off, none⟩), .int .i64 1] w fun e w' => e = .returned (.int .i64 (wrap64 (r + 1))) ∧ w' = w.setCell ⟨b, off, none⟩ (.int .i64 (wrap64 (r + 1))) := by
  have hadd := run_call_add (P := Tryz.prog) Tryz.func152 (by kernel_rfl) (by kernel_rfl) (by kernel_rfl) .i64 (by kernel_rfl) (y := 1) (s := wrap64 (r + 1)) hc hz (by simp [go_sem, w64])
  refine callsIn_of_wp Tryz.func96 rfl h5 ?_ hro
  simp only [Tryz.ntmps96, List.size_toArray, List.length_cons, List.length_nil, Nat.reduceAdd, Nat.reduceSub, Array.replicate_succ, Array.replicate_zero, List.push_toArray, List.append_toArray, List.nil_append, List.cons_append]
  gi_wp2
  go_ret
  exact ⟨rfl, rfl⟩
/-- what a device's Read meets -/
structure DevW (w : World) (db dof lb lo m c k : Nat) (r : Int) (W : Nat → Value) : Prop where
  q0 : w.cell? ⟨db, dof, none⟩ = some (.slice (some ⟨lb, lo, none⟩) m c)
  l0 : w.cell? ⟨lb, lo + k * 8, none⟩ = some (W 0)
  l1 : w.cell? ⟨lb, lo + k * 8 + 1, none⟩ = some (W 1)
  l2 : w.cell? ⟨lb, lo + k * 8 + 2, none⟩ = some (W 2)
  l3 : w.cell? ⟨lb, lo + k * 8 + 3, none⟩ = some (W 3)
  l4 : w.cell? ⟨lb, lo + k * 8 + 4, none⟩ = some (W 4)
  l5 : w.cell? ⟨lb, lo + k * 8 + 5, none⟩ = some (W 5)
  l6 : w.cell? ⟨lb, lo + k * 8 + 6, none⟩ = some (W 6)
  l7 : w.cell? ⟨lb, lo + k * 8 + 7, none⟩ = some (W 7)
theorem DevW.alloc {w : World} {db dof lb lo m c k : Nat} {r : Int} {W : Nat → Value} {o : Obj} (h : DevW w db dof lb lo m c k r W) : DevW (w.alloc o) db dof lb lo m c k r W :=
  ⟨cell_alloc h.q0, cell_alloc h.l0, cell_alloc h.l1, cell_alloc h.l2, cell_alloc h.l3, cell_alloc h.l4, cell_alloc h.l5, cell_alloc h.l6, cell_alloc h.l7⟩
theorem DevW.set {w : World} {db dof lb lo m c k : Nat} {r : Int} {W : Nat → Value} {v : Value} (h : DevW w db dof lb lo m c k r W) (hne : lb ≠ db) : DevW (w.setCell ⟨db, dof + 2, none⟩ v) db dof lb lo m c k r W :=
  ⟨cell_set_other _ _ _ _ _ _ _ h.q0 (.inr (by omega)), cell_set_other _ _ _ _ _ _ _ h.l0 (.inl hne), cell_set_other _ _ _ _ _ _ _ h.l1 (.inl hne), cell_set_other _ _ _ _ _ _ _ h.l2 (.inl hne), cell_set_other _ _ _ _ _ _ _ h.l3 (.inl hne), cell_set_other _ _ _ _ _ _ _ h.l4 (.inl hne), cell_set_other _ _ _ _ _ _ _ h.l5 (.inl hne), cell_set_other _ _ _ _ _ _ _ h.l6 (.inl hne), cell_set_other _ _ _ _ _ _ _ h.l7 (.inl hne)⟩
/-- a fresh line -/
structure NewL (w : World) (b : Nat) : Prop where
  z0 : w.cell? ⟨b, 0, none⟩ = some (.int .u64 0)
  z1 : w.cell? ⟨b, 1, none⟩ = some (.int .u64 0)
  z2 : w.cell? ⟨b, 2, none⟩ = some (.int .u64 0)
  z3 : w.cell? ⟨b, 3, none⟩ = some (.int .u64 0)
  z4 : w.cell? ⟨b, 4, none⟩ = some (.int .u64 0)
  z5 : w.cell? ⟨b, 5, none⟩ = some (.int .u64 0)
  z6 : w.cell? ⟨b, 6, none⟩ = some (.int .u64 0)
  z7 : w.cell? ⟨b, 7, none⟩ = some (.int .u64 0)
  f0 : w.frozen? ⟨b, 0, none⟩ = false
  f1 : w.frozen? ⟨b, 1, none⟩ = false
  f2 : w.frozen? ⟨b, 2, none⟩ = false
  f3 : w.frozen? ⟨b, 3, none⟩ = false
  f4 : w.frozen? ⟨b, 4, none⟩ = false
  f5 : w.frozen? ⟨b, 5, none⟩ = false
  f6 : w.frozen? ⟨b, 6, none⟩ = false
  f7 : w.frozen? ⟨b, 7, none⟩ = false
theorem NewL.new (w : World) (t : TypeId) : NewL (w.alloc (.cells #[.int .u64 0, .int .u64 0, .int .u64 0, .int .u64 0, .int .u64 0, .int .u64 0, .int .u64 0, .int .u64 0] t)) w.heap.size := by
  constructor <;> (first | unfold World.cell? | unfold World.frozen?) <;> simp only [World.alloc_heap_new] <;> rfl
theorem NewL.set {w : World} {b p o : Nat} {v : Value} (h : NewL w b) (hne : b ≠ p) : NewL (w.setCell ⟨p, o, none⟩ v) b :=
  ⟨cell_set_other _ _ _ _ _ _ _ h.z0 (.inl hne), cell_set_other _ _ _ _ _ _ _ h.z1 (.inl hne), cell_set_other _ _ _ _ _ _ _ h.z2 (.inl hne), cell_set_other _ _ _ _ _ _ _ h.z3 (.inl hne), cell_set_other _ _ _ _ _ _ _ h.z4 (.inl hne), cell_set_other _ _ _ _ _ _ _ h.z5 (.inl hne), cell_set_other _ _ _ _ _ _ _ h.z6 (.inl hne), cell_set_other _ _ _ _ _ _ _ h.z7 (.inl hne), (World.frozen?_setCell _ _ _ _).trans h.f0, (World.frozen?_setCell _ _ _ _).trans h.f1, (World.frozen?_setCell _ _ _ _).trans h.f2, (World.frozen?_setCell _ _ _ _).trans h.f3, (World.frozen?_setCell _ _ _ _).trans h.f4, (World.frozen?_setCell _ _ _ _).trans h.f5, (World.frozen?_setCell _ _ _ _).trans h.f6, (World.frozen?_setCell _ _ _ _).trans h.f7⟩
def put8 (w : World) (b : Nat) (W : Nat → Value) : World := ((((((((w.setCell ⟨b, 0, none⟩ (W 0)).setCell ⟨b, 1, none⟩ (W 1)).setCell ⟨b, 2, none⟩ (W 2)).setCell ⟨b, 3, none⟩ (W 3)).setCell ⟨b, 4, none⟩ (W 4)).setCell ⟨b, 5, none⟩ (W 5)).setCell ⟨b, 6, none⟩ (W 6)).setCell ⟨b, 7, none⟩ (W 7))
theorem store8 {P : Program} {w : World} {b : Nat} {W : Nat → Value} (h : NewL w b) (hc : ∀ i, i < 8 → isCell (W i) = true) :
    (((store ⟨b, 0, none⟩ (W 0)).run P w).andThen fun a w' => ((store ⟨b, 1, none⟩ (W 1)).run P w').andThen fun a w' => ((store ⟨b, 2, none⟩ (W 2)).run P w').andThen fun a w' => ((store ⟨b, 3, none⟩ (W 3)).run P w').andThen fun a w' => ((store ⟨b, 4, none⟩ (W 4)).run P w').andThen fun a w' => ((store ⟨b, 5, none⟩ (W 5)).run P w').andThen fun a w' => ((store ⟨b, 6, none⟩ (W 6)).run P w').andThen fun a w' => (store ⟨b, 7, none⟩ (W 7)).run P w') = .ok () (put8 w b W) := by
  rw [run_store_one (P := P) h.z0 h.f0 (hc 0 (by decide))]
  simp only [Result.andThen]
  rw [run_store_one (P := P) (cell_set_other _ _ _ _ _ _ _ h.z1 (.inr (by decide))) ((World.frozen?_setCell _ _ _ _).trans h.f1) (hc 1 (by decide))]
  simp only [Result.andThen]
  rw [run_store_one (P := P) (cell_set_other _ _ _ _ _ _ _ (cell_set_other _ _ _ _ _ _ _ h.z2 (.inr (by decide))) (.inr (by decide))) ((World.frozen?_setCell _ _ _ _).trans ((World.frozen?_setCell _ _ _ _).trans h.f2)) (hc 2 (by decide))]
  simp only [Result.andThen]
  rw [run_store_one (P := P) (cell_set_other _ _ _ _ _ _ _ (cell_set_other _ _ _ _ _ _ _ (cell_set_other _ _ _ _ _ _ _ h.z3 (.inr (by decide))) (.inr (by decide))) (.inr (by decide))) ((World.frozen?_setCell _ _ _ _).trans ((World.frozen?_setCell _ _ _ _).trans ((World.frozen?_setCell _ _ _ _).trans h.f3))) (hc 3 (by decide))]
  simp only [Result.andThen]
  rw [run_store_one (P := P) (cell_set_other _ _ _ _ _ _ _ (cell_set_other _ _ _ _ _ _ _ (cell_set_other _ _ _ _ _ _ _ (cell_set_other _ _ _ _ _ _ _ h.z4 (.inr (by decide))) (.inr (by decide))) (.inr (by decide))) (.inr (by decide))) ((World.frozen?_setCell _ _ _ _).trans ((World.frozen?_setCell _ _ _ _).trans ((World.frozen?_setCell _ _ _ _).trans ((World.frozen?_setCell _ _ _ _).trans h.f4)))) (hc 4 (by decide))]
  simp only [Result.andThen]
  rw [run_store_one (P := P) (cell_set_other _ _ _ _ _ _ _ (cell_set_other _ _ _ _ _ _ _ (cell_set_other _ _ _ _ _ _ _ (cell_set_other _ _ _ _ _ _ _ (cell_set_other _ _ _ _ _ _ _ h.z5 (.inr (by decide))) (.inr (by decide))) (.inr (by decide))) (.inr (by decide))) (.inr (by decide))) ((World.frozen?_setCell _ _ _ _).trans ((World.frozen?_setCell _ _ _ _).trans ((World.frozen?_setCell _ _ _ _).trans ((World.frozen?_setCell _ _ _ _).trans ((World.frozen?_setCell _ _ _ _).trans h.f5))))) (hc 5 (by decide))]
  simp only [Result.andThen]
  rw [run_store_one (P := P) (cell_set_other _ _ _ _ _ _ _ (cell_set_other _ _ _ _ _ _ _ (cell_set_other _ _ _ _ _ _ _ (cell_set_other _ _ _ _ _ _ _ (cell_set_other _ _ _ _ _ _ _ (cell_set_other _ _ _ _ _ _ _ h.z6 (.inr (by decide))) (.inr (by decide))) (.inr (by decide))) (.inr (by decide))) (.inr (by decide))) (.inr (by decide))) ((World.frozen?_setCell _ _ _ _).trans ((World.frozen?_setCell _ _ _ _).trans ((World.frozen?_setCell _ _ _ _).trans ((World.frozen?_setCell _ _ _ _).trans ((World.frozen?_setCell _ _ _ _).trans ((World.frozen?_setCell _ _ _ _).trans h.f6)))))) (hc 6 (by decide))]
  simp only [Result.andThen]
  rw [run_store_one (P := P) (cell_set_other _ _ _ _ _ _ _ (cell_set_other _ _ _ _ _ _ _ (cell_set_other _ _ _ _ _ _ _ (cell_set_other _ _ _ _ _ _ _ (cell_set_other _ _ _ _ _ _ _ (cell_set_other _ _ _ _ _ _ _ (cell_set_other _ _ _ _ _ _ _ h.z7 (.inr (by decide))) (.inr (by decide))) (.inr (by decide))) (.inr (by decide))) (.inr (by decide))) (.inr (by decide))) (.inr (by decide))) ((World.frozen?_setCell _ _ _ _).trans ((World.frozen?_setCell _ _ _ _).trans ((World.frozen?_setCell _ _ _ _).trans ((World.frozen?_setCell _ _ _ _).trans ((World.frozen?_setCell _ _ _ _).trans ((World.frozen?_setCell _ _ _ _).trans ((World.frozen?_setCell _ _ _ _).trans h.f7))))))) (hc 7 (by decide))]

  rfl
theorem put8_cell {w : World} {b : Nat} {W : Nat → Value} (h : NewL w b) : ∀ i, i < 8 → (put8 w b W).cell? ⟨b, i, none⟩ = some (W i) := by
  intro i hi
  match i, hi with
  | 0, _ => exact (cell_set_other _ _ _ _ _ _ _ (cell_set_other _ _ _ _ _ _ _ (cell_set_other _ _ _ _ _ _ _ (cell_set_other _ _ _ _ _ _ _ (cell_set_other _ _ _ _ _ _ _ (cell_set_other _ _ _ _ _ _ _ (cell_set_other _ _ _ _ _ _ _ (World.cell?_setCell_same' _ _ _ (by rw [h.z0]; rfl)) (.inr (by decide))) (.inr (by decide))) (.inr (by decide))) (.inr (by decide))) (.inr (by decide))) (.inr (by decide))) (.inr (by decide)))
  | 1, _ => exact (cell_set_other _ _ _ _ _ _ _ (cell_set_other _ _ _ _ _ _ _ (cell_set_other _ _ _ _ _ _ _ (cell_set_other _ _ _ _ _ _ _ (cell_set_other _ _ _ _ _ _ _ (cell_set_other _ _ _ _ _ _ _ (World.cell?_setCell_same' _ _ _ (by rw [(cell_set_other _ _ _ _ _ _ _ h.z1 (.inr (by decide)))]; rfl)) (.inr (by decide))) (.inr (by decide))) (.inr (by decide))) (.inr (by decide))) (.inr (by decide))) (.inr (by decide)))
  | 2, _ => exact (cell_set_other _ _ _ _ _ _ _ (cell_set_other _ _ _ _ _ _ _ (cell_set_other _ _ _ _ _ _ _ (cell_set_other _ _ _ _ _ _ _ (cell_set_other _ _ _ _ _ _ _ (World.cell?_setCell_same' _ _ _ (by rw [(cell_set_other _ _ _ _ _ _ _ (cell_set_other _ _ _ _ _ _ _ h.z2 (.inr (by decide))) (.inr (by decide)))]; rfl)) (.inr (by decide))) (.inr (by decide))) (.inr (by decide))) (.inr (by decide))) (.inr (by decide)))
  | 3, _ => exact (cell_set_other _ _ _ _ _ _ _ (cell_set_other _ _ _ _ _ _ _ (cell_set_other _ _ _ _ _ _ _ (cell_set_other _ _ _ _ _ _ _ (World.cell?_setCell_same' _ _ _ (by rw [(cell_set_other _ _ _ _ _ _ _ (cell_set_other _ _ _ _ _ _ _ (cell_set_other _ _ _ _ _ _ _ h.z3 (.inr (by decide))) (.inr (by decide))) (.inr (by decide)))]; rfl)) (.inr (by decide))) (.inr (by decide))) (.inr (by decide))) (.inr (by decide)))
  | 4, _ => exact (cell_set_other _ _ _ _ _ _ _ (cell_set_other _ _ _ _ _ _ _ (cell_set_other _ _ _ _ _ _ _ (World.cell?_setCell_same' _ _ _ (by rw [(cell_set_other _ _ _ _ _ _ _ (cell_set_other _ _ _ _ _ _ _ (cell_set_other _ _ _ _ _ _ _ (cell_set_other _ _ _ _ _ _ _ h.z4 (.inr (by decide))) (.inr (by decide))) (.inr (by decide))) (.inr (by decide)))]; rfl)) (.inr (by decide))) (.inr (by decide))) (.inr (by decide)))
  | 5, _ => exact (cell_set_other _ _ _ _ _ _ _ (cell_set_other _ _ _ _ _ _ _ (World.cell?_setCell_same' _ _ _ (by rw [(cell_set_other _ _ _ _ _ _ _ (cell_set_other _ _ _ _ _ _ _ (cell_set_other _ _ _ _ _ _ _ (cell_set_other _ _ _ _ _ _ _ (cell_set_other _ _ _ _ _ _ _ h.z5 (.inr (by decide))) (.inr (by decide))) (.inr (by decide))) (.inr (by decide))) (.inr (by decide)))]; rfl)) (.inr (by decide))) (.inr (by decide)))
  | 6, _ => exact (cell_set_other _ _ _ _ _ _ _ (World.cell?_setCell_same' _ _ _ (by rw [(cell_set_other _ _ _ _ _ _ _ (cell_set_other _ _ _ _ _ _ _ (cell_set_other _ _ _ _ _ _ _ (cell_set_other _ _ _ _ _ _ _ (cell_set_other _ _ _ _ _ _ _ (cell_set_other _ _ _ _ _ _ _ h.z6 (.inr (by decide))) (.inr (by decide))) (.inr (by decide))) (.inr (by decide))) (.inr (by decide))) (.inr (by decide)))]; rfl)) (.inr (by decide)))
  | 7, _ => exact (World.cell?_setCell_same' _ _ _ (by rw [(cell_set_other _ _ _ _ _ _ _ (cell_set_other _ _ _ _ _ _ _ (cell_set_other _ _ _ _ _ _ _ (cell_set_other _ _ _ _ _ _ _ (cell_set_other _ _ _ _ _ _ _ (cell_set_other _ _ _ _ _ _ _ (cell_set_other _ _ _ _ _ _ _ h.z7 (.inr (by decide))) (.inr (by decide))) (.inr (by decide))) (.inr (by decide))) (.inr (by decide))) (.inr (by decide))) (.inr (by decide)))]; rfl))
theorem put8_other {w : World} {b p o : Nat} {W : Nat → Value} {v : Value} (h : w.cell? ⟨p, o, none⟩ = some v) (hne : p ≠ b) : (put8 w b W).cell? ⟨p, o, none⟩ = some v :=
  (cell_set_other _ _ _ _ _ _ _ (cell_set_other _ _ _ _ _ _ _ (cell_set_other _ _ _ _ _ _ _ (cell_set_other _ _ _ _ _ _ _ (cell_set_other _ _ _ _ _ _ _ (cell_set_other _ _ _ _ _ _ _ (cell_set_other _ _ _ _ _ _ _ (cell_set_other _ _ _ _ _ _ _ h (by omega)) (by omega)) (by omega)) (by omega)) (by omega)) (by omega)) (by omega)) (by omega))
theorem put8_frozen {w : World} {b : Nat} {W : Nat → Value} {a : Addr} : (put8 w b W).frozen? a = w.frozen? a := by
  simp only [put8, World.frozen?_setCell]
theorem put8_below {w : World} {b : Nat} {W : Nat → Value} {n : Nat} (hb : n ≤ b) : Below n w (put8 w b W) := (((((((((Below.refl n w).setCell (p := ⟨b, 0, none⟩) hb (W 0)).setCell (p := ⟨b, 1, none⟩) hb (W 1)).setCell (p := ⟨b, 2, none⟩) hb (W 2)).setCell (p := ⟨b, 3, none⟩) hb (W 3)).setCell (p := ⟨b, 4, none⟩) hb (W 4)).setCell (p := ⟨b, 5, none⟩) hb (W 5)).setCell (p := ⟨b, 6, none⟩) hb (W 6)).setCell (p := ⟨b, 7, none⟩) hb (W 7))
theorem put8_keeps (w : World) (b : Nat) (W : Nat → Value) : KeepsOthers w (put8 w b W) := ((((((((KeepsOthers.setCell w ⟨b, 0, none⟩ (W 0)).trans (KeepsOthers.setCell _ ⟨b, 1, none⟩ (W 1))).trans (KeepsOthers.setCell _ ⟨b, 2, none⟩ (W 2))).trans (KeepsOthers.setCell _ ⟨b, 3, none⟩ (W 3))).trans (KeepsOthers.setCell _ ⟨b, 4, none⟩ (W 4))).trans (KeepsOthers.setCell _ ⟨b, 5, none⟩ (W 5))).trans (KeepsOthers.setCell _ ⟨b, 6, none⟩ (W 6))).trans (KeepsOthers.setCell _ ⟨b, 7, none⟩ (W 7)))
/-- a fresh entry, its words -/
structure NewE (w : World) (b : Nat) : Prop where
  z0 : w.cell? ⟨b, 1, none⟩ = some (.int .u64 0)
  z1 : w.cell? ⟨b, 2, none⟩ = some (.int .u64 0)
  z2 : w.cell? ⟨b, 3, none⟩ = some (.int .u64 0)
  z3 : w.cell? ⟨b, 4, none⟩ = some (.int .u64 0)
  z4 : w.cell? ⟨b, 5, none⟩ = some (.int .u64 0)
  z5 : w.cell? ⟨b, 6, none⟩ = some (.int .u64 0)
  z6 : w.cell? ⟨b, 7, none⟩ = some (.int .u64 0)
  z7 : w.cell? ⟨b, 8, none⟩ = some (.int .u64 0)
  f0 : w.frozen? ⟨b, 1, none⟩ = false
  f1 : w.frozen? ⟨b, 2, none⟩ = false
  f2 : w.frozen? ⟨b, 3, none⟩ = false
  f3 : w.frozen? ⟨b, 4, none⟩ = false
  f4 : w.frozen? ⟨b, 5, none⟩ = false
  f5 : w.frozen? ⟨b, 6, none⟩ = false
  f6 : w.frozen? ⟨b, 7, none⟩ = false
  f7 : w.frozen? ⟨b, 8, none⟩ = false
theorem NewE.new (w : World) (v : Int) (t : TypeId) : NewE (w.alloc (.cells #[.int .i64 v, .int .u64 0, .int .u64 0, .int .u64 0, .int .u64 0, .int .u64 0, .int .u64 0, .int .u64 0, .int .u64 0] t)) w.heap.size := by
  constructor <;> (first | unfold World.cell? | unfold World.frozen?) <;> simp only [World.alloc_heap_new] <;> rfl
theorem NewE.set {w : World} {b p o : Nat} {v : Value} (h : NewE w b) (hne : b ≠ p) : NewE (w.setCell ⟨p, o, none⟩ v) b :=
  ⟨cell_set_other _ _ _ _ _ _ _ h.z0 (.inl hne), cell_set_other _ _ _ _ _ _ _ h.z1 (.inl hne), cell_set_other _ _ _ _ _ _ _ h.z2 (.inl hne), cell_set_other _ _ _ _ _ _ _ h.z3 (.inl hne), cell_set_other _ _ _ _ _ _ _ h.z4 (.inl hne), cell_set_other _ _ _ _ _ _ _ h.z5 (.inl hne), cell_set_other _ _ _ _ _ _ _ h.z6 (.inl hne), cell_set_other _ _ _ _ _ _ _ h.z7 (.inl hne), (World.frozen?_setCell _ _ _ _).trans h.f0, (World.frozen?_setCell _ _ _ _).trans h.f1, (World.frozen?_setCell _ _ _ _).trans h.f2, (World.frozen?_setCell _ _ _ _).trans h.f3, (World.frozen?_setCell _ _ _ _).trans h.f4, (World.frozen?_setCell _ _ _ _).trans h.f5, (World.frozen?_setCell _ _ _ _).trans h.f6, (World.frozen?_setCell _ _ _ _).trans h.f7⟩
def putE (w : World) (b : Nat) (W : Nat → Value) : World := ((((((((w.setCell ⟨b, 1, none⟩ (W 0)).setCell ⟨b, 2, none⟩ (W 1)).setCell ⟨b, 3, none⟩ (W 2)).setCell ⟨b, 4, none⟩ (W 3)).setCell ⟨b, 5, none⟩ (W 4)).setCell ⟨b, 6, none⟩ (W 5)).setCell ⟨b, 7, none⟩ (W 6)).setCell ⟨b, 8, none⟩ (W 7))
theorem storeE {P : Program} {w : World} {b : Nat} {W : Nat → Value} (h : NewE w b) (hc : ∀ i, i < 8 → isCell (W i) = true) :
    (((store ⟨b, 1, none⟩ (W 0)).run P w).andThen fun a w' => ((store ⟨b, 2, none⟩ (W 1)).run P w').andThen fun a w' => ((store ⟨b, 3, none⟩ (W 2)).run P w').andThen fun a w' => ((store ⟨b, 4, none⟩ (W 3)).run P w').andThen fun a w' => ((store ⟨b, 5, none⟩ (W 4)).run P w').andThen fun a w' => ((store ⟨b, 6, none⟩ (W 5)).run P w').andThen fun a w' => ((store ⟨b, 7, none⟩ (W 6)).run P w').andThen fun a w' => (store ⟨b, 8, none⟩ (W 7)).run P w') = .ok () (putE w b W) := by
  rw [run_store_one (P := P) h.z0 h.f0 (hc 0 (by decide))]
  simp only [Result.andThen]
  rw [run_store_one (P := P) (cell_set_other _ _ _ _ _ _ _ h.z1 (.inr (by decide))) ((World.frozen?_setCell _ _ _ _).trans h.f1) (hc 1 (by decide))]
  simp only [Result.andThen]
  rw [run_store_one (P := P) (cell_set_other _ _ _ _ _ _ _ (cell_set_other _ _ _ _ _ _ _ h.z2 (.inr (by decide))) (.inr (by decide))) ((World.frozen?_setCell _ _ _ _).trans ((World.frozen?_setCell _ _ _ _).trans h.f2)) (hc 2 (by decide))]
  simp only [Result.andThen]
  rw [run_store_one (P := P) (cell_set_other _ _ _ _ _ _ _ (cell_set_other _ _ _ _ _ _ _ (cell_set_other _ _ _ _ _ _ _ h.z3 (.inr (by decide))) (.inr (by decide))) (.inr (by decide))) ((World.frozen?_setCell _ _ _ _).trans ((World.frozen?_setCell _ _ _ _).trans ((World.frozen?_setCell _ _ _ _).trans h.f3))) (hc 3 (by decide))]
  simp only [Result.andThen]
  rw [run_store_one (P := P) (cell_set_other _ _ _ _ _ _ _ (cell_set_other _ _ _ _ _ _ _ (cell_set_other _ _ _ _ _ _ _ (cell_set_other _ _ _ _ _ _ _ h.z4 (.inr (by decide))) (.inr (by decide))) (.inr (by decide))) (.inr (by decide))) ((World.frozen?_setCell _ _ _ _).trans ((World.frozen?_setCell _ _ _ _).trans ((World.frozen?_setCell _ _ _ _).trans ((World.frozen?_setCell _ _ _ _).trans h.f4)))) (hc 4 (by decide))]
  simp only [Result.andThen]
  rw [run_store_one (P := P) (cell_set_other _ _ _ _ _ _ _ (cell_set_other _ _ _ _ _ _ _ (cell_set_other _ _ _ _ _ _ _ (cell_set_other _ _ _ _ _ _ _ (cell_set_other _ _ _ _ _ _ _ h.z5 (.inr (by decide))) (.inr (by decide))) (.inr (by decide))) (.inr (by decide))) (.inr (by decide))) ((World.frozen?_setCell _ _ _ _).trans ((World.frozen?_setCell _ _ _ _).trans ((World.frozen?_setCell _ _ _ _).trans ((World.frozen?_setCell _ _ _ _).trans ((World.frozen?_setCell _ _ _ _).trans h.f5))))) (hc 5 (by decide))]
  simp only [Result.andThen]
  rw [run_store_one (P := P) (cell_set_other _ _ _ _ _ _ _ (cell_set_other _ _ _ _ _ _ _ (cell_set_other _ _ _ _ _ _ _ (cell_set_other _ _ _ _ _ _ _ (cell_set_other _ _ _ _ _ _ _ (cell_set_other _ _ _ _ _ _ _ h.z6 (.inr (by decide))) (.inr (by decide))) (.inr (by decide))) (.inr (by decide))) (.inr (by decide))) (.inr (by decide))) ((World.frozen?_setCell _ _ _ _).trans ((World.frozen?_setCell _ _ _ _).trans ((World.frozen?_setCell _ _ _ _).trans ((World.frozen?_setCell _ _ _ _).trans ((World.frozen?_setCell _ _ _ _).trans ((World.frozen?_setCell _ _ _ _).trans h.f6)))))) (hc 6 (by decide))]
  simp only [Result.andThen]
  rw [run_store_one (P := P) (cell_set_other _ _ _ _ _ _ _ (cell_set_other _ _ _ _ _ _ _ (cell_set_other _ _ _ _ _ _ _ (cell_set_other _ _ _ _ _ _ _ (cell_set_other _ _ _ _ _ _ _ (cell_set_other _ _ _ _ _ _ _ (cell_set_other _ _ _ _ _ _ _ h.z7 (.inr (by decide))) (.inr (by decide))) (.inr (by decide))) (.inr (by decide))) (.inr (by decide))) (.inr (by decide))) (.inr (by decide))) ((World.frozen?_setCell _ _ _ _).trans ((World.frozen?_setCell _ _ _ _).trans ((World.frozen?_setCell _ _ _ _).trans ((World.frozen?_setCell _ _ _ _).trans ((World.frozen?_setCell _ _ _ _).trans ((World.frozen?_setCell _ _ _ _).trans ((World.frozen?_setCell _ _ _ _).trans h.f7))))))) (hc 7 (by decide))]

  rfl
theorem putE_cell {w : World} {b : Nat} {W : Nat → Value} (h : NewE w b) : ∀ i, i < 8 → (putE w b W).cell? ⟨b, 1 + i, none⟩ = some (W i) := by
  intro i hi
  match i, hi with
  | 0, _ => exact (cell_set_other _ _ _ _ _ _ _ (cell_set_other _ _ _ _ _ _ _ (cell_set_other _ _ _ _ _ _ _ (cell_set_other _ _ _ _ _ _ _ (cell_set_other _ _ _ _ _ _ _ (cell_set_other _ _ _ _ _ _ _ (cell_set_other _ _ _ _ _ _ _ (World.cell?_setCell_same' _ _ _ (by rw [h.z0]; rfl)) (.inr (by decide))) (.inr (by decide))) (.inr (by decide))) (.inr (by decide))) (.inr (by decide))) (.inr (by decide))) (.inr (by decide)))
  | 1, _ => exact (cell_set_other _ _ _ _ _ _ _ (cell_set_other _ _ _ _ _ _ _ (cell_set_other _ _ _ _ _ _ _ (cell_set_other _ _ _ _ _ _ _ (cell_set_other _ _ _ _ _ _ _ (cell_set_other _ _ _ _ _ _ _ (World.cell?_setCell_same' _ _ _ (by rw [(cell_set_other _ _ _ _ _ _ _ h.z1 (.inr (by decide)))]; rfl)) (.inr (by decide))) (.inr (by decide))) (.inr (by decide))) (.inr (by decide))) (.inr (by decide))) (.inr (by decide)))
  | 2, _ => exact (cell_set_other _ _ _ _ _ _ _ (cell_set_other _ _ _ _ _ _ _ (cell_set_other _ _ _ _ _ _ _ (cell_set_other _ _ _ _ _ _ _ (cell_set_other _ _ _ _ _ _ _ (World.cell?_setCell_same' _ _ _ (by rw [(cell_set_other _ _ _ _ _ _ _ (cell_set_other _ _ _ _ _ _ _ h.z2 (.inr (by decide))) (.inr (by decide)))]; rfl)) (.inr (by decide))) (.inr (by decide))) (.inr (by decide))) (.inr (by decide))) (.inr (by decide)))
  | 3, _ => exact (cell_set_other _ _ _ _ _ _ _ (cell_set_other _ _ _ _ _ _ _ (cell_set_other _ _ _ _ _ _ _ (cell_set_other _ _ _ _ _ _ _ (World.cell?_setCell_same' _ _ _ (by rw [(cell_set_other _ _ _ _ _ _ _ (cell_set_other _ _ _ _ _ _ _ (cell_set_other _ _ _ _ _ _ _ h.z3 (.inr (by decide))) (.inr (by decide))) (.inr (by decide)))]; rfl)) (.inr (by decide))) (.inr (by decide))) (.inr (by decide))) (.inr (by decide)))
  | 4, _ => exact (cell_set_other _ _ _ _ _ _ _ (cell_set_other _ _ _ _ _ _ _ (cell_set_other _ _ _ _ _ _ _ (World.cell?_setCell_same' _ _ _ (by rw [(cell_set_other _ _ _ _ _ _ _ (cell_set_other _ _ _ _ _ _ _ (cell_set_other _ _ _ _ _ _ _ (cell_set_other _ _ _ _ _ _ _ h.z4 (.inr (by decide))) (.inr (by decide))) (.inr (by decide))) (.inr (by decide)))]; rfl)) (.inr (by decide))) (.inr (by decide))) (.inr (by decide)))
  | 5, _ => exact (cell_set_other _ _ _ _ _ _ _ (cell_set_other _ _ _ _ _ _ _ (World.cell?_setCell_same' _ _ _ (by rw [(cell_set_other _ _ _ _ _ _ _ (cell_set_other _ _ _ _ _ _ _ (cell_set_other _ _ _ _ _ _ _ (cell_set_other _ _ _ _ _ _ _ (cell_set_other _ _ _ _ _ _ _ h.z5 (.inr (by decide))) (.inr (by decide))) (.inr (by decide))) (.inr (by decide))) (.inr (by decide)))]; rfl)) (.inr (by decide))) (.inr (by decide)))
  | 6, _ => exact (cell_set_other _ _ _ _ _ _ _ (World.cell?_setCell_same' _ _ _ (by rw [(cell_set_other _ _ _ _ _ _ _ (cell_set_other _ _ _ _ _ _ _ (cell_set_other _ _ _ _ _ _ _ (cell_set_other _ _ _ _ _ _ _ (cell_set_other _ _ _ _ _ _ _ (cell_set_other _ _ _ _ _ _ _ h.z6 (.inr (by decide))) (.inr (by decide))) (.inr (by decide))) (.inr (by decide))) (.inr (by decide))) (.inr (by decide)))]; rfl)) (.inr (by decide)))
  | 7, _ => exact (World.cell?_setCell_same' _ _ _ (by rw [(cell_set_other _ _ _ _ _ _ _ (cell_set_other _ _ _ _ _ _ _ (cell_set_other _ _ _ _ _ _ _ (cell_set_other _ _ _ _ _ _ _ (cell_set_other _ _ _ _ _ _ _ (cell_set_other _ _ _ _ _ _ _ (cell_set_other _ _ _ _ _ _ _ h.z7 (.inr (by decide))) (.inr (by decide))) (.inr (by decide))) (.inr (by decide))) (.inr (by decide))) (.inr (by decide))) (.inr (by decide)))]; rfl))
theorem putE_other {w : World} {b p o : Nat} {W : Nat → Value} {v : Value} (h : w.cell? ⟨p, o, none⟩ = some v) (hne : p ≠ b ∨ o < 1) : (putE w b W).cell? ⟨p, o, none⟩ = some v :=
  (cell_set_other _ _ _ _ _ _ _ (cell_set_other _ _ _ _ _ _ _ (cell_set_other _ _ _ _ _ _ _ (cell_set_other _ _ _ _ _ _ _ (cell_set_other _ _ _ _ _ _ _ (cell_set_other _ _ _ _ _ _ _ (cell_set_other _ _ _ _ _ _ _ (cell_set_other _ _ _ _ _ _ _ h (by omega)) (by omega)) (by omega)) (by omega)) (by omega)) (by omega)) (by omega)) (by omega))
theorem putE_frozen {w : World} {b : Nat} {W : Nat → Value} {a : Addr} : (putE w b W).frozen? a = w.frozen? a := by
  simp only [putE, World.frozen?_setCell]
theorem putE_below {w : World} {b : Nat} {W : Nat → Value} {n : Nat} (hb : n ≤ b) : Below n w (putE w b W) := (((((((((Below.refl n w).setCell (p := ⟨b, 1, none⟩) hb (W 0)).setCell (p := ⟨b, 2, none⟩) hb (W 1)).setCell (p := ⟨b, 3, none⟩) hb (W 2)).setCell (p := ⟨b, 4, none⟩) hb (W 3)).setCell (p := ⟨b, 5, none⟩) hb (W 4)).setCell (p := ⟨b, 6, none⟩) hb (W 5)).setCell (p := ⟨b, 7, none⟩) hb (W 6)).setCell (p := ⟨b, 8, none⟩) hb (W 7))
theorem putE_keeps (w : World) (b : Nat) (W : Nat → Value) : KeepsOthers w (putE w b W) := ((((((((KeepsOthers.setCell w ⟨b, 1, none⟩ (W 0)).trans (KeepsOthers.setCell _ ⟨b, 2, none⟩ (W 1))).trans (KeepsOthers.setCell _ ⟨b, 3, none⟩ (W 2))).trans (KeepsOthers.setCell _ ⟨b, 4, none⟩ (W 3))).trans (KeepsOthers.setCell _ ⟨b, 5, none⟩ (W 4))).trans (KeepsOthers.setCell _ ⟨b, 6, none⟩ (W 5))).trans (KeepsOthers.setCell _ ⟨b, 7, none⟩ (W 6))).trans (KeepsOthers.setCell _ ⟨b, 8, none⟩ (W 7)))
set_option maxRecDepth 100000 in
set_option maxHeartbeats 4000000 in
theorem dev_in (F : Fence) (n : Nat) (hF : F.fn 166 ∧ F.fn 197 ∧ F.fn 96 ∧ F.fn 152) (hro : F.round = none) (hn : 3 ≤ n) (db dof lb lo m c : Nat) (x r : Int) (W : Nat → Value) (w : World) (hne : lb ≠ db)
    (h0 : w.cell? ⟨db, dof, none⟩ = some (.slice (some ⟨lb, lo, none⟩) m c)) (hx0 : 0 ≤ x) (hxm : x < m) (hW : ∀ i, i < 8 → w.cell? ⟨lb, lo + x.toNat * 8 + i, none⟩ = some (W i)) (hc8 : ∀ i, i < 8 → isCell (W i) = true) (hr : w.cell? ⟨db, dof + 2, none⟩ = some (.int .i64 r)) (hz : w.frozen? ⟨db, dof + 2, none⟩ = false) :
    CallsIn F n Tryz.prog 166 #[.pointer (some ⟨db, dof, none⟩), .int .i64 x] w fun e w' => e = .returned (.tuple #[agg8 W, .int .i64 0]) ∧ ∃ w1, Below w.heap.size w w1 ∧ Below w.heap.size (w1.setCell ⟨db, dof + 2, none⟩ (.int .i64 (wrap64 (r + 1)))) w' := by
  have h1 : 1 ≤ n := by omega
  have e0 : w.cell? ⟨lb, lo + x.toNat * 8, none⟩ = some (W 0) := by simpa using hW 0 (by decide)
  have e1 : w.cell? ⟨lb, lo + x.toNat * 8 + 1, none⟩ = some (W 1) := by simpa using hW 1 (by decide)
  have e2 : w.cell? ⟨lb, lo + x.toNat * 8 + 2, none⟩ = some (W 2) := by simpa using hW 2 (by decide)
  have e3 : w.cell? ⟨lb, lo + x.toNat * 8 + 3, none⟩ = some (W 3) := by simpa using hW 3 (by decide)
  have e4 : w.cell? ⟨lb, lo + x.toNat * 8 + 4, none⟩ = some (W 4) := by simpa using hW 4 (by decide)
  have e5 : w.cell? ⟨lb, lo + x.toNat * 8 + 5, none⟩ = some (W 5) := by simpa using hW 5 (by decide)
  have e6 : w.cell? ⟨lb, lo + x.toNat * 8 + 6, none⟩ = some (W 6) := by simpa using hW 6 (by decide)
  have e7 : w.cell? ⟨lb, lo + x.toNat * 8 + 7, none⟩ = some (W 7) := by simpa using hW 7 (by decide)
  obtain ⟨k, rfl⟩ : ∃ k : Nat, x = k := ⟨x.toNat, by omega⟩
  simp only [Int.toNat_natCast] at *
  have hxm' : k < m := by omega
  have hd : Hid (DevW w db dof lb lo m c k r W) := ⟨h0, e0, e1, e2, e3, e4, e5, e6, e7⟩
  have hB : Hid (db < w.heap.size) := by
    obtain ⟨o, ho, _⟩ := cells_of_cell h0
    exact (Array.getElem?_eq_some_iff.1 ho).1
  have hr' : Hid (w.cell? ⟨db, dof + 2, none⟩ = some (.int .i64 r) ∧ w.frozen? ⟨db, dof + 2, none⟩ = false) := ⟨hr, hz⟩
  clear e0 e1 e2 e3 e4 e5 e6 e7
  refine callsIn_of_wp Tryz.func166 rfl hF.1 ?_ hro
  simp only [Tryz.ntmps166, List.size_toArray, List.length_cons, List.length_nil, Nat.reduceAdd, Nat.reduceSub, Array.replicate_succ, Array.replicate_zero, List.push_toArray, List.append_toArray, List.nil_append, List.cons_append]
  gi_wp2_with (first
    | (gi_at_call 197
       refine (dmay_in F (n - 1) hF.2.1 hro db dof m c _ _ _ (cell_alloc h0) hx0 hxm).mono ?_
       rintro e w' ⟨rfl, rfl⟩
       have hn1 : Hid (NewL (w.alloc (.cells #[.int .u64 0, .int .u64 0, .int .u64 0, .int .u64 0, .int .u64 0, .int .u64 0, .int .u64 0, .int .u64 0] 43)) w.heap.size) := NewL.new w 43
       have hq2 : (w.alloc (.cells #[.int .u64 0, .int .u64 0, .int .u64 0, .int .u64 0, .int .u64 0, .int .u64 0, .int .u64 0, .int .u64 0] 43)).cell? ⟨db, dof + 2, none⟩ = some (.int .i64 r) := cell_alloc hr
       have hqz : (w.alloc (.cells #[.int .u64 0, .int .u64 0, .int .u64 0, .int .u64 0, .int .u64 0, .int .u64 0, .int .u64 0, .int .u64 0] 43)).frozen? ⟨db, dof + 2, none⟩ = false := (frozen_alloc hr).trans hz
       have hd1 : Hid (DevW (w.alloc (.cells #[.int .u64 0, .int .u64 0, .int .u64 0, .int .u64 0, .int .u64 0, .int .u64 0, .int .u64 0, .int .u64 0] 43)) db dof lb lo m c k r W) := hd.out.alloc
       have hsz : Hid (Below w.heap.size w (w.alloc (.cells #[.int .u64 0, .int .u64 0, .int .u64 0, .int .u64 0, .int .u64 0, .int .u64 0, .int .u64 0, .int .u64 0] 43))) := (Below.refl _ w).alloc (Nat.le_refl _) _
       obtain ⟨w1, hw1⟩ : ∃ w1, w.alloc (.cells #[.int .u64 0, .int .u64 0, .int .u64 0, .int .u64 0, .int .u64 0, .int .u64 0, .int .u64 0, .int .u64 0] 43) = w1 := ⟨_, rfl⟩
       rw [hw1] at hn1 hq2 hqz hd1 hsz ⊢
       clear hw1)
    | (gi_at_call 96
       refine (add64_in F (n - 1) hF.2.2.1 hF.2.2.2 hro db (dof + 2) r _ hq2 hqz).mono ?_
       rintro e w' ⟨rfl, rfl⟩
       have hn2 := hn1.out.set (p := db) (o := dof + 2) (v := .int .i64 (wrap64 (r + 1))) (Nat.ne_of_gt hB.out)
       have hd2 := hd1.out.set (v := .int .i64 (wrap64 (r + 1))) hne
       obtain ⟨w2, hw2⟩ : ∃ w2, w1.setCell ⟨db, dof + 2, none⟩ (.int .i64 (wrap64 (r + 1))) = w2 := ⟨_, rfl⟩
       rw [hw2] at hn2 hd2 ⊢
       have hw2' : Hid (w1.setCell ⟨db, dof + 2, none⟩ (.int .i64 (wrap64 (r + 1))) = w2) := hw2
       clear hw2
       obtain ⟨p0, p0_, p1_, p2_, p3_, p4_, p5_, p6_, p7_⟩ := hd2
       have hn3 : Hid (NewL w2 w.heap.size) := hn2
       clear hn2)
    | (rw [store8 hn3.out hc8]
       have hc3 := put8_cell (W := W) hn3.out
       have y0 := hc3 0 (by decide)
       have y1 := hc3 1 (by decide)
       have y2 := hc3 2 (by decide)
       have y3 := hc3 3 (by decide)
       have y4 := hc3 4 (by decide)
       have y5 := hc3 5 (by decide)
       have y6 := hc3 6 (by decide)
       have y7 := hc3 7 (by decide)
       have hb3 : Hid (Below w.heap.size w2 (put8 w2 w.heap.size W)) := put8_below (Nat.le_refl _)
       obtain ⟨w3, hw3⟩ : ∃ w3, put8 w2 w.heap.size W = w3 := ⟨_, rfl⟩
       rw [hw3] at y0 y1 y2 y3 y4 y5 y6 y7 hb3 ⊢
       clear hw3 hc3))
  refine bodyPost_ret (v := .tuple #[agg8 W, .int .i64 0]) (by simp [results, Tryz.f166, go_sem, agg8, y0, y1, y2, y3, y4, y5, y6, y7]) rfl ⟨rfl, w1, hsz.out, ?_⟩
  rw [hw2'.out]; exact hb3.out
end Go.Proofs.YtjpckcikmfihlaaGreat.Gen

namespace Go.Proofs.YtjpckcikmfihlaaGreat.Gen
open Go Go.Proofs.YtjpckcikmfihlaaGreat.Abs Go.RowKit Go.Shelf
attribute [local go_sem] Oper.semAt_some
theorem newl_kept {W W' : World} {row : Option Nat} {b : Nat} (h : NewL W b) (hg : W.grownBy W' row) (hr : ∀ r, row = some r → ∃ o : Obj, W.heap[r]? = some o ∧ o.isCells = false) : NewL W' b :=
  ⟨cell_kept h.z0 hg hr, cell_kept h.z1 hg hr, cell_kept h.z2 hg hr, cell_kept h.z3 hg hr, cell_kept h.z4 hg hr, cell_kept h.z5 hg hr, cell_kept h.z6 hg hr, cell_kept h.z7 hg hr, (frozen_kept h.z0 hg hr).trans h.f0, (frozen_kept h.z1 hg hr).trans h.f1, (frozen_kept h.z2 hg hr).trans h.f2, (frozen_kept h.z3 hg hr).trans h.f3, (frozen_kept h.z4 hg hr).trans h.f4, (frozen_kept h.z5 hg hr).trans h.f5, (frozen_kept h.z6 hg hr).trans h.f6, (frozen_kept h.z7 hg hr).trans h.f7⟩
theorem cell_new (w : World) (cs : Array Value) (t : TypeId) (i : Nat) : (w.alloc (.cells cs t)).cell? ⟨w.heap.size, i, none⟩ = cs[i]? := by
  unfold World.cell?; simp only [World.alloc_heap_new]; rfl
theorem frozen_new (w : World) (cs : Array Value) (t : TypeId) (i : Nat) : (w.alloc (.cells cs t)).frozen? ⟨w.heap.size, i, none⟩ = false := by
  unfold World.frozen?; simp only [World.alloc_heap_new]; simp
theorem NewL.alloc {w : World} {b : Nat} {o : Obj} (h : NewL w b) : NewL (w.alloc o) b :=
  ⟨cell_alloc h.z0, cell_alloc h.z1, cell_alloc h.z2, cell_alloc h.z3, cell_alloc h.z4, cell_alloc h.z5, cell_alloc h.z6, cell_alloc h.z7, (frozen_alloc h.z0).trans h.f0, (frozen_alloc h.z1).trans h.f1, (frozen_alloc h.z2).trans h.f2, (frozen_alloc h.z3).trans h.f3, (frozen_alloc h.z4).trans h.f4, (frozen_alloc h.z5).trans h.f5, (frozen_alloc h.z6).trans h.f6, (frozen_alloc h.z7).trans h.f7⟩
/-- the boxes of Read -/
structure RdI (s : Nat) (x : Int) (W : World) : Prop where
  c : W.cell? ⟨s, 0, none⟩ = some (.int .i64 x)
  l : NewL W (s + 1)
  e : W.cell? ⟨s + 1 + 1, 0, none⟩ = some (.int .i64 0)
  ef : W.frozen? ⟨s + 1 + 1, 0, none⟩ = false
theorem RdI.kept {s : Nat} {x : Int} {W W' : World} {row : Option Nat} (h : RdI s x W) (hg : W.grownBy W' row) (hr : ∀ r, row = some r → ∃ o : Obj, W.heap[r]? = some o ∧ o.isCells = false) : RdI s x W' :=
  ⟨cell_kept h.c hg hr, newl_kept h.l hg hr, cell_kept h.e hg hr, (frozen_kept h.e hg hr).trans h.ef⟩
theorem RdI.alloc {s : Nat} {x : Int} {W : World} {o : Obj} (h : RdI s x W) : RdI s x (W.alloc o) := h.kept (World.grownBy_alloc W o none) (fun r e => by cases e)
theorem RdI.putE {s b : Nat} {x : Int} {W : World} {e : Nat → Value} (h : RdI s x W) (hb : s + 1 + 1 < b) : RdI s x (putE W b e) :=
  ⟨putE_other h.c (.inl (by omega)), ⟨putE_other h.l.z0 (.inl (by omega)), putE_other h.l.z1 (.inl (by omega)), putE_other h.l.z2 (.inl (by omega)), putE_other h.l.z3 (.inl (by omega)), putE_other h.l.z4 (.inl (by omega)), putE_other h.l.z5 (.inl (by omega)), putE_other h.l.z6 (.inl (by omega)), putE_other h.l.z7 (.inl (by omega)), putE_frozen.trans h.l.f0, putE_frozen.trans h.l.f1, putE_frozen.trans h.l.f2, putE_frozen.trans h.l.f3, putE_frozen.trans h.l.f4, putE_frozen.trans h.l.f5, putE_frozen.trans h.l.f6, putE_frozen.trans h.l.f7⟩, putE_other h.e (.inl (by omega)), putE_frozen.trans h.ef⟩
/-- a round that found the line -/
structure RdX (s : Nat) (x : Int) (L : Nat → Int) (E : Nat → Nat → Value) (c : Code) (pre : List Nat) (W : World) : Prop where
  c : c = .ret
  p : ∃ ini k, pre = ini ++ [k] ∧ (∀ j ∈ ini, L j ≠ x) ∧ L k = x ∧ (∀ i, i < 8 → W.cell? ⟨s + 1, i, none⟩ = some (E k i))
  e : W.cell? ⟨s + 1 + 1, 0, none⟩ = some (.int .i64 0)
theorem RdX.kept {s : Nat} {x : Int} {L : Nat → Int} {E : Nat → Nat → Value} {c : Code} {pre : List Nat} {W W' : World} {row : Option Nat} (h : RdX s x L E c pre W) (hg : W.grownBy W' row) (hr : ∀ r, row = some r → ∃ o : Obj, W.heap[r]? = some o ∧ o.isCells = false) : RdX s x L E c pre W' := by
  obtain ⟨h1, ⟨ini, k, h2, h3, h4, h5⟩, h6⟩ := h
  exact ⟨h1, ⟨ini, k, h2, h3, h4, fun i hi => cell_kept (h5 i hi) hg hr⟩, cell_kept h6 hg hr⟩
/-- an entry in a box -/
structure BoxE (W : World) (B : Nat) (v : Int) (e : Nat → Value) : Prop where
  c0 : W.cell? ⟨B, 0, none⟩ = some (.int .i64 v)
  c1 : W.cell? ⟨B, 1, none⟩ = some (e 0)
  c2 : W.cell? ⟨B, 2, none⟩ = some (e 1)
  c3 : W.cell? ⟨B, 3, none⟩ = some (e 2)
  c4 : W.cell? ⟨B, 4, none⟩ = some (e 3)
  c5 : W.cell? ⟨B, 5, none⟩ = some (e 4)
  c6 : W.cell? ⟨B, 6, none⟩ = some (e 5)
  c7 : W.cell? ⟨B, 7, none⟩ = some (e 6)
  c8 : W.cell? ⟨B, 8, none⟩ = some (e 7)
theorem BoxE.kept {W W' : World} {row : Option Nat} {B : Nat} {v : Int} {e : Nat → Value} (h : BoxE W B v e) (hg : W.grownBy W' row) (hr : ∀ r, row = some r → ∃ o : Obj, W.heap[r]? = some o ∧ o.isCells = false) : BoxE W' B v e :=
  ⟨cell_kept h.c0 hg hr, cell_kept h.c1 hg hr, cell_kept h.c2 hg hr, cell_kept h.c3 hg hr, cell_kept h.c4 hg hr, cell_kept h.c5 hg hr, cell_kept h.c6 hg hr, cell_kept h.c7 hg hr, cell_kept h.c8 hg hr⟩
set_option maxRecDepth 100000 in
set_option maxHeartbeats 400000 in
theorem read_in (F : Fence) (n : Nat) (hF : F.fn 135 ∧ F.fn 199 ∧ F.fn 212 ∧ F.fn 166) (hDv : F.fn 166 ∧ F.fn 197 ∧ F.fn 96 ∧ F.fn 152) (hro : F.round = none) (hn : 7 ≤ n) (b off db dof sb so len cap : Nat) (a : Option Addr) (x : Int) (L : Nat → Int) (E : Nat → Nat → Value) (w : World) (R : Ending → World → Prop)
    (hq : w.cell? ⟨b, off, none⟩ = some (.pointer (some ⟨db, dof, none⟩))) (hsl : w.cell? ⟨b, off + 2, none⟩ = some (.slice a len cap)) (ha : 0 < len → a = some ⟨sb, so, none⟩) (hlen : len < 1099511627776)
    (hL : ∀ j, j < len → w.cell? ⟨sb, so + j * 9, none⟩ = some (.int .i64 (L j))) (hE : ∀ j i, j < len → i < 8 → w.cell? ⟨sb, so + j * 9 + 1 + i, none⟩ = some (E j i)) (hEu : ∀ j i, isU64 (E j i) = true)
    (hfound : ∀ k, k < len → L k = x → (∀ j, k < j → j < len → L j ≠ x) → ∀ w1, Below w.heap.size w w1 → R (.returned (.tuple #[agg8 (E k), .int .i64 0])) w1)
    (hnone : (∀ j, j < len → L j ≠ x) → ∃ (lb lo m c : Nat) (r : Int) (W : Nat → Value), lb ≠ db ∧ w.cell? ⟨db, dof, none⟩ = some (.slice (some ⟨lb, lo, none⟩) m c) ∧ 0 ≤ x ∧ x < m ∧ m < 1099511627776 ∧
      (∀ i, i < 8 → w.cell? ⟨lb, lo + x.toNat * 8 + i, none⟩ = some (W i)) ∧ (∀ i, isU64 (W i) = true) ∧ w.cell? ⟨db, dof + 2, none⟩ = some (.int .i64 r) ∧ w.frozen? ⟨db, dof + 2, none⟩ = false ∧
      ∀ w1 w2, Below w.heap.size w w1 → Below w.heap.size (w1.setCell ⟨db, dof + 2, none⟩ (.int .i64 (IntKind.wrap .i64 (r + 1)))) w2 → R (.returned (.tuple #[agg8 W, .int .i64 0])) w2) :
    CallsIn F n Tryz.prog 135 #[.pointer (some ⟨b, off, none⟩), .int .i64 x] w R := by
  have hEc : ∀ j i, isCell (E j i) = true := fun j i => isU64_cell (hEu j i)
  clear hEu
  have h1 : 1 ≤ n := by omega
  have hq3 : (((w.alloc (.cells #[.int .i64 x] 3)).alloc (.cells #[.int .u64 0, .int .u64 0, .int .u64 0, .int .u64 0, .int .u64 0, .int .u64 0, .int .u64 0, .int .u64 0] 43)).alloc (.cells #[.int .i64 0] 28)).cell? ⟨b, off, none⟩ = some (.pointer (some ⟨db, dof, none⟩)) := cell_alloc (cell_alloc (cell_alloc hq))
  have hsl3 : (((w.alloc (.cells #[.int .i64 x] 3)).alloc (.cells #[.int .u64 0, .int .u64 0, .int .u64 0, .int .u64 0, .int .u64 0, .int .u64 0, .int .u64 0, .int .u64 0] 43)).alloc (.cells #[.int .i64 0] 28)).cell? ⟨b, off + 2, none⟩ = some (.slice a len cap) := cell_alloc (cell_alloc (cell_alloc hsl))
  have hI3 : Hid (RdI w.heap.size x ((((w.alloc (.cells #[.int .i64 x] 3)).alloc (.cells #[.int .u64 0, .int .u64 0, .int .u64 0, .int .u64 0, .int .u64 0, .int .u64 0, .int .u64 0, .int .u64 0] 43)).alloc (.cells #[.int .i64 0] 28)).alloc (.cells #[.slice a len cap] 158))) := by
    have hl := NewL.new (w.alloc (.cells #[.int .i64 x] 3)) 43
    rw [World.size_alloc] at hl
    have he := cell_new ((w.alloc (.cells #[.int .i64 x] 3)).alloc (.cells #[.int .u64 0, .int .u64 0, .int .u64 0, .int .u64 0, .int .u64 0, .int .u64 0, .int .u64 0, .int .u64 0] 43)) #[.int .i64 0] 28 0
    have hf := frozen_new ((w.alloc (.cells #[.int .i64 x] 3)).alloc (.cells #[.int .u64 0, .int .u64 0, .int .u64 0, .int .u64 0, .int .u64 0, .int .u64 0, .int .u64 0, .int .u64 0] 43)) #[.int .i64 0] 28 0
    rw [World.size_alloc, World.size_alloc] at he hf
    exact ⟨cell_alloc (cell_alloc (cell_alloc (cell_new w _ _ 0))), hl.alloc.alloc, cell_alloc he, (frozen_alloc he).trans hf⟩
  have hBs3 : Hid (((((w.alloc (.cells #[.int .i64 x] 3)).alloc (.cells #[.int .u64 0, .int .u64 0, .int .u64 0, .int .u64 0, .int .u64 0, .int .u64 0, .int .u64 0, .int .u64 0] 43)).alloc (.cells #[.int .i64 0] 28)).alloc (.cells #[.slice a len cap] 158)).cell? ⟨w.heap.size + 1 + 1 + 1, 0, none⟩ = some (.slice a len cap)) := by
    have h := cell_new (((w.alloc (.cells #[.int .i64 x] 3)).alloc (.cells #[.int .u64 0, .int .u64 0, .int .u64 0, .int .u64 0, .int .u64 0, .int .u64 0, .int .u64 0, .int .u64 0] 43)).alloc (.cells #[.int .i64 0] 28)) #[.slice a len cap] 158 0
    rw [World.size_alloc, World.size_alloc, World.size_alloc] at h
    exact h
  have hB3 : Hid (Below w.heap.size w ((((w.alloc (.cells #[.int .i64 x] 3)).alloc (.cells #[.int .u64 0, .int .u64 0, .int .u64 0, .int .u64 0, .int .u64 0, .int .u64 0, .int .u64 0, .int .u64 0] 43)).alloc (.cells #[.int .i64 0] 28)).alloc (.cells #[.slice a len cap] 158))) := ((((Below.refl _ w).alloc (Nat.le_refl _) _).alloc (by simp) _).alloc (by simp; omega) _).alloc (by simp; omega) _
  have hs3 : Hid (((((w.alloc (.cells #[.int .i64 x] 3)).alloc (.cells #[.int .u64 0, .int .u64 0, .int .u64 0, .int .u64 0, .int .u64 0, .int .u64 0, .int .u64 0, .int .u64 0] 43)).alloc (.cells #[.int .i64 0] 28)).alloc (.cells #[.slice a len cap] 158)).heap.size = w.heap.size + 4) := by show _ = _; simp
  refine callsIn_of_wp_marks Tryz.func135 rfl hF.1 ?_ hro
  simp only [Tryz.ntmps135, List.size_toArray, List.length_cons, List.length_nil, Nat.reduceAdd, Nat.reduceSub, Array.replicate_succ, Array.replicate_zero, List.push_toArray, List.append_toArray, List.nil_append, List.cons_append]
  gi_wp2_with (gi_at_call 199; refine (back_in F (n - 1) hF.2.1 hro _ _ _ _).mono ?_; rintro e w' ⟨rfl, rfl⟩)
  obtain ⟨w3, hw3⟩ : ∃ w3, (((w.alloc (.cells #[.int .i64 x] 3)).alloc (.cells #[.int .u64 0, .int .u64 0, .int .u64 0, .int .u64 0, .int .u64 0, .int .u64 0, .int .u64 0, .int .u64 0] 43)).alloc (.cells #[.int .i64 0] 28)).alloc (.cells #[.slice a len cap] 158) = w3 := ⟨_, rfl⟩
  rw [hw3] at hI3 hBs3 hB3 hs3 ⊢
  clear hw3 hq3 hsl3
  have hlt3 : ∀ j, j < len → sb < w.heap.size := fun j hj => by
    obtain ⟨o, ho, _⟩ := cells_of_cell (hL j hj)
    exact (Array.getElem?_eq_some_iff.1 ho).1
  have hb3 : b < w.heap.size := by
    obtain ⟨o, ho, _⟩ := cells_of_cell hq
    exact (Array.getElem?_eq_some_iff.1 ho).1
  refine wpIn_rangeFunc_ownH hro h1 (gf := 212) (lb := #[.pointer (some ⟨w.heap.size + 1 + 1 + 1, 0, none⟩)]) rfl hF.2.2.1 (enters_of Tryz.func212 (by kernel_rfl) rfl)
    (back_stops F (n - 1) hF.2.2.1 hro (by omega) (w.heap.size + 1 + 1 + 1) w3.heap.size sb so len cap a L E hlen ha (fun h => by have := hlt3 0 h; have := hs3.out; omega) w3 (by have := hs3.out; omega) (by have := hs3.out; omega) (Nat.le_refl _) hBs3.out
      (fun j hj => (hB3.out.cell (p := ⟨sb, so + j * 9, none⟩) (hlt3 j hj)).trans (hL j hj)) (fun j i hj hi => (hB3.out.cell (p := ⟨sb, so + j * 9 + 1 + i, none⟩) (hlt3 j hj)).trans (hE j i hj hi)))
    belowK_t (belowK_b (Nat.le_refl _)) (Below.refl _ _) (fun _ => rfl)
    (fun pre W => (RdI w.heap.size x W ∧ (∀ j ∈ pre, L j ≠ x) ∧ w3.heap.size ≤ W.heap.size) ∧ Below w.heap.size w W)
    (fun c pre W => RdX w.heap.size x L E c pre W ∧ Below w.heap.size w W)
    (OwnFrom.and (Own.from (fun s A B row hs hg hr => ⟨hs.1.kept hg hr, hs.2.1, Nat.le_trans hs.2.2 hg.size⟩) _) (ownFrom_below (Nat.le_refl _) (by have := hs3.out; omega)))
    (fun c => OwnFrom.and (Own.from (fun s A B row hs hg hr => hs.kept hg hr) _) (ownFrom_below (Nat.le_refl _) (by have := hs3.out; omega)))
    ⟨⟨hI3.out, (fun j hj => by cases hj), Nat.le_refl _⟩, hB3.out⟩
    (fun k a' W => ∃ Bx, w3.heap.size ≤ Bx ∧ BoxE W Bx (L k) (E k) ∧ a' = { tmps := #[.pointer (some ⟨b, off, none⟩), .int .i64 x, undef, .pointer (some ⟨w.heap.size, 0, none⟩), .pointer (some ⟨w.heap.size + 1, 0, none⟩), .pointer (some ⟨w.heap.size + 1 + 1, 0, none⟩), undef, .pointer (some ⟨Bx, 0, none⟩),
      .pointer (some ⟨b, off, none⟩), .bool false, undef, .pointer (some ⟨b, off, none⟩), .pointer (some ⟨b, off, none⟩), .pointer (some ⟨b, off + 2, none⟩), .slice a len cap, .func (.func 212) #[] #[.pointer (some ⟨w.heap.size + 1 + 1 + 1, 0, none⟩)], .int .i64 (k : Nat), elem9 L E k,
      undef, undef, undef, undef, undef, undef, undef, undef, undef, undef, undef, undef, undef, undef], defers := [] })
    (fun k a' _ X Y row hs hg hr => by obtain ⟨Bx, h1, h2, h3⟩ := hs; exact ⟨Bx, h1, h2.kept hg (fun r e => (hr r e).2), h3⟩)
    ?assign ?body ?done ?stop
  case assign =>
    rintro l pre k W K ⟨⟨hI1, hp1, hz1⟩, hB1⟩ hK
    simp only [elem9] at hK ⊢
    have hn := NewE.new W (L k) 174
    have hc0 := cell_new W #[.int .i64 (L k), .int .u64 0, .int .u64 0, .int .u64 0, .int .u64 0, .int .u64 0, .int .u64 0, .int .u64 0, .int .u64 0] 174 0
    gi_wp2_with (rw [storeE hn (fun i _ => hEc k i)])
    refine hK _ _ (((KeepsOthers.alloc _ _).trans (putE_keeps _ _ _)).from _) (((Below.refl _ W).alloc hz1 _).trans (putE_below hz1)) ⟨⟨?_, hp1, Nat.le_trans hz1 ?_⟩, (hB1.alloc hB1.size _).trans (putE_below hB1.size)⟩ ⟨W.heap.size, hz1, ?_, rfl⟩
    · exact hI1.alloc.putE (by have := hs3.out; omega)
    · exact Nat.le_trans (by simp) (putE_keeps _ _ _).size
    · exact ⟨putE_other hc0 (.inr (by decide)), putE_cell hn 0 (by decide), putE_cell hn 1 (by decide), putE_cell hn 2 (by decide), putE_cell hn 3 (by decide), putE_cell hn 4 (by decide), putE_cell hn 5 (by decide), putE_cell hn 6 (by decide), putE_cell hn 7 (by decide)⟩
  case body =>
    rintro l pre k a' W hl ⟨r, hr⟩ ⟨⟨hI1, hp1, hz1⟩, hB1⟩ ⟨Bx, hBx, hX, rfl⟩ hlt
    have hcl := hI1.c
    have hel := hI1.e
    have hef := hI1.ef
    have hne : Hid (w.heap.size + 1 ≠ Bx) := by have := hs3.out; show _ ≠ _; omega
    have hl8 : Hid (NewL W (w.heap.size + 1)) := hI1.l
    obtain ⟨x0, x1, x2, x3, x4, x5, x6, x7, x8⟩ := hX
    by_cases hLk : L k = x
    · gi_wp2
      rw [store8 hl8.out (fun i _ => hEc k i)]
      have he4 : (put8 W (w.heap.size + 1) (E k)).cell? ⟨w.heap.size + 1 + 1, 0, none⟩ = some (.int .i64 0) := put8_other hel (by omega)
      have hf4 : (put8 W (w.heap.size + 1) (E k)).frozen? ⟨w.heap.size + 1 + 1, 0, none⟩ = false := put8_frozen.trans hef
      have hc4 : Hid (∀ i, i < 8 → (put8 W (w.heap.size + 1) (E k)).cell? ⟨w.heap.size + 1, i, none⟩ = some (E k i)) := fun i hi => by have h := put8_cell (W := E k) hl8.out i hi; simpa using h
      have hk4 : Hid (KeepsOthers W (put8 W (w.heap.size + 1) (E k))) := put8_keeps _ _ _
      have hb4 : Hid (Below w.heap.size w (put8 W (w.heap.size + 1) (E k))) := hB1.trans (put8_below (by omega))
      obtain ⟨w4, hw4⟩ : ∃ w4, put8 W (w.heap.size + 1) (E k) = w4 := ⟨_, rfl⟩
      rw [hw4] at he4 hf4 hc4 hk4 hb4 ⊢
      clear hw4
      gi_wp2
      exact ⟨(hk4.out.trans (KeepsOthers.setCell _ _ _)).from _, ⟨rfl, ⟨pre, k, rfl, hp1, hLk, fun i hi => cell_set_other _ _ _ _ _ _ _ (hc4.out i hi) (.inl (by omega))⟩, World.cell?_setCell_same' _ _ _ (by rw [he4]; rfl)⟩, hb4.out.setCell (p := ⟨w.heap.size + 1 + 1, 0, none⟩) (by show _ ≤ _; simp; omega) _⟩
    · gi_wp2
      exact ⟨KeepsFrom.refl _ _, Below.refl _ _, ⟨hI1, fun j hj => (List.mem_append.1 hj).elim (hp1 j) (fun e => by simp at e; subst e; exact hLk), hz1⟩, hB1⟩
  case done =>
    rintro D ys W hD rfl ⟨⟨hI1, hp1, hz1⟩, hB1⟩ hK
    have hno : ∀ j, j < len → L j ≠ x := fun j hj => hp1 j (by
      simp only [downto, List.mem_map, List.mem_range]
      exact ⟨len - 1 - j, by omega, by omega⟩)
    obtain ⟨lb, lo, m, c, r, V, hne, g0, hx0, hxm, hmm, gV, hVc, gr, gf, hR⟩ := hnone hno
    obtain ⟨z, rfl⟩ : ∃ z : Nat → Int, V = fun i => .int .u64 (z i) := by
      refine ⟨fun i => match V i with | .int _ y => y | _ => 0, funext fun i => ?_⟩
      obtain ⟨y, hy⟩ := isU64_int (hVc i)
      show _ = Value.int .u64 (match V i with | .int _ y => y | _ => 0)
      rw [hy]
    clear hVc
    have hqW : W.cell? ⟨b, off, none⟩ = some (.pointer (some ⟨db, dof, none⟩)) := (hB1.cell (p := ⟨b, off, none⟩) hb3).trans hq
    have hcl := hI1.c
    have hgW : Hid (W.cell? ⟨db, dof, none⟩ = some (.slice (some ⟨lb, lo, none⟩) m c) ∧ (∀ i, i < 8 → W.cell? ⟨lb, lo + x.toNat * 8 + i, none⟩ = some (.int .u64 (z i))) ∧ W.cell? ⟨db, dof + 2, none⟩ = some (.int .i64 r) ∧ W.frozen? ⟨db, dof + 2, none⟩ = false) := by
      have hlt : ∀ p v, w.cell? p = some v → W.cell? p = some v := fun p v h => by
        obtain ⟨o, ho, _⟩ := cells_of_cell h
        exact (hB1.cell (p := p) (Array.getElem?_eq_some_iff.1 ho).1).trans h
      refine ⟨hlt _ _ g0, fun i hi => hlt _ _ (gV i hi), hlt _ _ gr, ?_⟩
      obtain ⟨o, ho, _⟩ := cells_of_cell gr
      exact (hB1.frozen (p := ⟨db, dof + 2, none⟩) (Array.getElem?_eq_some_iff.1 ho).1).trans gf
    have hdb3 : db < w.heap.size := by
      obtain ⟨o, ho, _⟩ := cells_of_cell g0
      exact (Array.getElem?_eq_some_iff.1 ho).1
    clear gV g0 gr gf
    have hI1' : Hid (RdI w.heap.size x W) := hI1
    have hKd : Hid (W.heap[D]? = some (.deferred (some []))) := hK
    gi_wp2
    have hmx : Tryz.prog.follows .mixedOrders = true := by kernel_rfl
    have hdev : Hid (CallsIn F (n - 1) Tryz.prog 166 #[.pointer (some ⟨db, dof, none⟩), .int .i64 x] W.drew fun e w' => e = .returned (.tuple #[agg8 (fun i => .int .u64 (z i)), .int .i64 0]) ∧ ∃ w1, Below W.drew.heap.size W.drew w1 ∧ Below W.drew.heap.size (w1.setCell ⟨db, dof + 2, none⟩ (.int .i64 (wrap64 (r + 1)))) w') :=
      dev_in F (n - 1) hDv hro (by omega) db dof lb lo m c x r (fun i => .int .u64 (z i)) W.drew hne ((World.cell?_drew _ _).trans hgW.out.1) hx0 hxm (fun i hi => (World.cell?_drew _ _).trans (hgW.out.2.1 i hi)) (fun i _ => rfl) ((World.cell?_drew _ _).trans hgW.out.2.2.1) ((World.frozen?_drew _ _).trans hgW.out.2.2.2)
    have hdev' : Hid (CallsIn F (n - 1) Tryz.prog 166 #[.pointer (some ⟨db, dof, none⟩), .int .i64 x] W.drew fun e w' => e = .returned (.tuple #[.agg #[.int .u64 (z 0), .int .u64 (z 1), .int .u64 (z 2), .int .u64 (z 3), .int .u64 (z 4), .int .u64 (z 5), .int .u64 (z 6), .int .u64 (z 7)], .int .i64 0]) ∧ RdI w.heap.size x w' ∧ w'.heap[D]? = some (.deferred (some [])) ∧ ∃ w1, Below w.heap.size w w1 ∧ Below w.heap.size (w1.setCell ⟨db, dof + 2, none⟩ (.int .i64 (wrap64 (r + 1)))) w') := by
      refine hdev.out.mono ?_
      rintro e w' ⟨rfl, w1, hw1, hw2⟩
      have hsz : W.drew.heap.size = W.heap.size := rfl
      rw [hsz] at hw1 hw2
      have hws := hs3.out
      have hDs : D < W.heap.size := (Array.getElem?_eq_some_iff.1 hKd.out).1
      have hdb : db < w.heap.size := hdb3
      refine ⟨rfl, ?_, ?_, w1, (hB1.trans ((Below.refl _ W).drew)).trans (hw1.mono (by omega)), hw2.mono (by omega)⟩
      · have hc : ∀ p v, W.cell? p = some v → p.block ≠ db → w'.cell? p = some v := fun p v h hne => by
          have hlt : p.block < W.heap.size := by
            obtain ⟨o, ho, _⟩ := cells_of_cell h
            exact (Array.getElem?_eq_some_iff.1 ho).1
          refine (hw2.cell hlt).trans ?_
          rw [World.cell?_of_block (Below.heap_setCell w1 ⟨db, dof + 2, none⟩ _ p.block hne)]
          exact (hw1.cell hlt).trans h
        have hf : ∀ p v, W.cell? p = some v → p.block ≠ db → w'.frozen? p = W.frozen? p := fun p v h hne => by
          have hlt : p.block < W.heap.size := by
            obtain ⟨o, ho, _⟩ := cells_of_cell h
            exact (Array.getElem?_eq_some_iff.1 ho).1
          refine (hw2.frozen hlt).trans ?_
          rw [World.frozen?_of_block (Below.heap_setCell w1 ⟨db, dof + 2, none⟩ _ p.block hne)]
          exact hw1.frozen hlt
        have hI := hI1'.out
        refine ⟨hc _ _ hI.c (by show w.heap.size ≠ db; omega), ⟨hc _ _ hI.l.z0 (by show w.heap.size + 1 ≠ db; omega), hc _ _ hI.l.z1 (by show w.heap.size + 1 ≠ db; omega), hc _ _ hI.l.z2 (by show w.heap.size + 1 ≠ db; omega), hc _ _ hI.l.z3 (by show w.heap.size + 1 ≠ db; omega), hc _ _ hI.l.z4 (by show w.heap.size + 1 ≠ db; omega), hc _ _ hI.l.z5 (by show w.heap.size + 1 ≠ db; omega), hc _ _ hI.l.z6 (by show w.heap.size + 1 ≠ db; omega), hc _ _ hI.l.z7 (by show w.heap.size + 1 ≠ db; omega), (hf _ _ hI.l.z0 (by show w.heap.size + 1 ≠ db; omega)).trans hI.l.f0, (hf _ _ hI.l.z1 (by show w.heap.size + 1 ≠ db; omega)).trans hI.l.f1, (hf _ _ hI.l.z2 (by show w.heap.size + 1 ≠ db; omega)).trans hI.l.f2, (hf _ _ hI.l.z3 (by show w.heap.size + 1 ≠ db; omega)).trans hI.l.f3, (hf _ _ hI.l.z4 (by show w.heap.size + 1 ≠ db; omega)).trans hI.l.f4, (hf _ _ hI.l.z5 (by show w.heap.size + 1 ≠ db; omega)).trans hI.l.f5, (hf _ _ hI.l.z6 (by show w.heap.size + 1 ≠ db; omega)).trans hI.l.f6, (hf _ _ hI.l.z7 (by show w.heap.size + 1 ≠ db; omega)).trans hI.l.f7⟩, hc _ _ hI.e (by show w.heap.size + 1 + 1 ≠ db; omega), (hf _ _ hI.e (by show w.heap.size + 1 + 1 ≠ db; omega)).trans hI.ef⟩
      · refine (hw2.block D hDs).trans ?_
        rw [Below.heap_setCell w1 ⟨db, dof + 2, none⟩ _ D (by show D ≠ db; omega)]
        exact (hw1.block D hDs).trans hKd.out
    clear hdev
    gi_region_with_o (gi_at_call 166; refine hdev'.out.mono ?_; rintro e w' ⟨rfl, hI2, hK2, w1, hw1, hw2⟩; obtain ⟨q1, ⟨z0, z1, z2, z3, z4, z5, z6, z7, f0, f1, f2, f3, f4, f5, f6, f7⟩, q2, q3⟩ := hI2)
    all_goals gi_wp2
    all_goals
      have hn : NewL w' (w.heap.size + 1) := ⟨z0, z1, z2, z3, z4, z5, z6, z7, f0, f1, f2, f3, f4, f5, f6, f7⟩
      have hc5 := put8_cell (W := fun i => .int .u64 (z i)) hn
      have hl5 : ∀ i, i < 8 → ((put8 w' (w.heap.size + 1) (fun i => .int .u64 (z i))).setCell ⟨w.heap.size + 1 + 1, 0, none⟩ (.int .i64 0)).cell? ⟨w.heap.size + 1, i, none⟩ = some (.int .u64 (z i)) := fun i hi => cell_set_other _ _ _ _ _ _ _ (by have h := hc5 i hi; simpa using h) (.inl (by omega))
      have he5 : ((put8 w' (w.heap.size + 1) (fun i => .int .u64 (z i))).setCell ⟨w.heap.size + 1 + 1, 0, none⟩ (.int .i64 0)).cell? ⟨w.heap.size + 1 + 1, 0, none⟩ = some (.int .i64 0) := World.cell?_setCell_same' _ _ _ (by rw [put8_other q2 (by omega)]; rfl)
      have hK5 : ((put8 w' (w.heap.size + 1) (fun i => .int .u64 (z i))).setCell ⟨w.heap.size + 1 + 1, 0, none⟩ (.int .i64 0)).heap[D]? = some (.deferred (some [])) := ((put8_keeps _ _ _).trans (KeepsOthers.setCell _ _ _)).same D _ hK2 rfl
      have hb5 : Below w.heap.size (w1.setCell ⟨db, dof + 2, none⟩ (.int .i64 (wrap64 (r + 1)))) ((put8 w' (w.heap.size + 1) (fun i => .int .u64 (z i))).setCell ⟨w.heap.size + 1 + 1, 0, none⟩ (.int .i64 0)) := (hw2.trans (put8_below (by omega))).setCell (p := ⟨w.heap.size + 1 + 1, 0, none⟩) (by show _ ≤ _; simp; omega) _
      show bodyPostM _ _ _ _ R .ret _ ((put8 w' (w.heap.size + 1) (fun i => .int .u64 (z i))).setCell ⟨w.heap.size + 1 + 1, 0, none⟩ (.int .i64 0))
      obtain ⟨w5, hw5⟩ : ∃ w5, (put8 w' (w.heap.size + 1) (fun i => .int .u64 (z i))).setCell ⟨w.heap.size + 1 + 1, 0, none⟩ (.int .i64 0) = w5 := ⟨_, rfl⟩
      rw [hw5] at hl5 he5 hK5 hb5 ⊢
      refine ⟨by simp, .inl ⟨_, _, rfl, run_takeDeferred hK5, ?_⟩⟩
      have kept : ∀ p v, w5.cell? p = some v → (w5.putObj D (.deferred none)).cell? p = some v := fun p v h => cell_kept h (grownBy_putObj' _ D (.deferred none)) (fun r e => by cases e; exact ⟨_, hK5, rfl⟩)
      have c5 := kept _ _ he5
      have y0 := kept _ _ (hl5 0 (by decide))
      have y1 := kept _ _ (hl5 1 (by decide))
      have y2 := kept _ _ (hl5 2 (by decide))
      have y3 := kept _ _ (hl5 3 (by decide))
      have y4 := kept _ _ (hl5 4 (by decide))
      have y5 := kept _ _ (hl5 5 (by decide))
      have y6 := kept _ _ (hl5 6 (by decide))
      have y7 := kept _ _ (hl5 7 (by decide))
      refine ⟨.tuple #[agg8 (fun i => .int .u64 (z i)), .int .i64 0], ?_, hR w1 _ hw1 (by rw [w64]; exact hb5.trans (belowK_b (w := w) (Nat.le_refl _) w5 D _ _ (by have := hs3.out; omega) hK5 rfl rfl))⟩
      simp [results, Tryz.f135, go_sem, agg8, y0, y1, y2, y3, y4, y5, y6, y7, c5]
  case stop =>
    rintro D c pre W hD ⟨k, hk, rfl⟩ ⟨⟨rfl, ⟨ini, q, e1, e2, e3, e4⟩, e5⟩, hB1⟩ hK
    gi_wp2
    refine ⟨by simp, .inl ⟨_, _, rfl, run_takeDeferred hK, ?_⟩⟩
    have kept : ∀ p v, W.cell? p = some v → (W.putObj D (.deferred none)).cell? p = some v := fun p v h => cell_kept h (grownBy_putObj' _ D (.deferred none)) (fun r e => by cases e; exact ⟨_, hK, rfl⟩)
    have c5 := kept _ _ e5
    have y0 := kept _ _ (e4 0 (by decide))
    have y1 := kept _ _ (e4 1 (by decide))
    have y2 := kept _ _ (e4 2 (by decide))
    have y3 := kept _ _ (e4 3 (by decide))
    have y4 := kept _ _ (e4 4 (by decide))
    have y5 := kept _ _ (e4 5 (by decide))
    have y6 := kept _ _ (e4 6 (by decide))
    have y7 := kept _ _ (e4 7 (by decide))
    obtain ⟨k', rfl⟩ : ∃ k', k = k' + 1 := by
      cases k with
      | zero => simp [downto] at e1
      | succ k' => exact ⟨k', rfl⟩
    rw [downto_succ] at e1
    obtain ⟨rfl, e6⟩ := List.append_inj' e1 rfl
    obtain rfl : len - 1 - k' = q := by simpa using e6
    refine ⟨.tuple #[agg8 (E (len - 1 - k')), .int .i64 0], ?_, hfound _ (by omega) e3 (fun j h1 h2 => e2 j ?_) _ (hB1.trans (belowK_b (w := w) (Nat.le_refl _) W D _ _ (by have := hs3.out; omega) hK rfl rfl))⟩
    · simp [results, Tryz.f135, go_sem, agg8, y0, y1, y2, y3, y4, y5, y6, y7, c5]
    · simp only [downto, List.mem_map, List.mem_range]
      exact ⟨len - 1 - j, by omega, by omega⟩
theorem read_ok : ReadOk Tryz.prog 135 := by
  intro b off db dof sb so len cap a x L E w R hq hsl ha hlen hL hE hEu hfound hnone
  exact (callsIn_wide (n := 7)).1 (read_in Fence.wide 7 ⟨trivial, trivial, trivial, trivial⟩ ⟨trivial, trivial, trivial, trivial⟩ rfl (Nat.le_refl _) b off db dof sb so len cap a x L E w R hq hsl ha hlen hL hE hEu hfound hnone)
end Go.Proofs.YtjpckcikmfihlaaGreat.Gen

namespace Go.Proofs.YtjpckcikmfihlaaGreat.Gen
open Go Go.Proofs.YtjpckcikmfihlaaGreat.Abs Go.RowKit
variable {g : G} {n : Nat}
/-- told functions of this program -/
def TT0 : XTab := fun f =>
  if f = 152 then some (.add .i64)
  else   if f = 135 then some (.look rRead)
  else none
set_option maxRecDepth 1000000 in
theorem TT0_ok : XTOk Tryz.prog TT0 := by
  intro f k h
  unfold TT0 at h
  split at h
  · rename_i hf; subst hf; cases h
    exact ⟨_, Tryz.func152, by kernel_rfl, by kernel_rfl, by kernel_rfl, by kernel_rfl⟩
  · split at h
    · rename_i hf; subst hf; cases h
      exact fun args g n K h => read_sim ⟨_, Tryz.func135, by kernel_rfl, by kernel_rfl⟩ read_ok h
    · cases h
/-- agents' table of turns -/
def turnsV : Value := .agg #[.int .i64 (-1), .int .i64 (-1), .int .i64 (-1), .int .i64 (-1), .int .i64 (-1), .int .i64 (-1), .int .i64 (-1), .int .i64 (-1), .int .i64 (-1), .int .i64 (-1), .int .i64 (-1), .int .i64 (-1), .int .i64 (-1), .int .i64 (-1), .int .i64 (-1), .int .i64 (-1), .int .i64 (-1), .int .i64 (-1), .int .i64 (-1), .int .i64 (-1), .int .i64 (-1), .int .i64 (-1), .int .i64 (-1), .int .i64 (-1), .int .i64 (-1), .int .i64 (-1), .int .i64 (-1), .int .i64 (-1), .int .i64 (-1), .int .i64 (-1), .int .i64 (-1), .int .i64 (-1), .int .i64 (-1), .int .i64 (-1), .int .i64 (-1), .int .i64 (-1), .int .i64 (-1), .int .i64 (-1), .int .i64 (-1), .int .i64 (-1), .int .i64 (-1), .int .i64 (-1), .int .i64 (-1), .int .i64 (-1), .int .i64 (-1), .int .i64 (-1), .int .i64 (-1), .int .i64 (-1), .int .i64 (-1), .int .i64 (-1), .int .i64 (-1), .int .i64 (-1), .int .i64 (-1), .int .i64 (-1), .int .i64 (-1), .int .i64 (-1), .int .i64 (-1), .int .i64 (-1), .int .i64 (-1), .int .i64 (-1), .int .i64 (-1), .int .i64 (-1), .int .i64 (-1), .int .i64 (-1), .int .i64 (-1), .int .i64 (-1), .int .i64 (-1), .int .i64 (-1), .int .i64 (-1), .int .i64 (-1), .int .i64 (-1), .int .i64 (-1), .int .i64 (-1), .int .i64 (-1), .int .i64 (-1), .int .i64 (-1), .int .i64 (-1), .int .i64 (-1), .int .i64 (-1), .int .i64 (-1), .int .i64 (-1), .int .i64 (-1), .int .i64 (-1), .int .i64 (-1), .int .i64 (1), .int .i64 (-1), .int .i64 (-1), .int .i64 (-1), .int .i64 (-1), .int .i64 (-1), .int .i64 (-1), .int .i64 (-1), .int .i64 (-1), .int .i64 (-1), .int .i64 (2), .int .i64 (-1), .int .i64 (-1), .int .i64 (-1), .int .i64 (-1), .int .i64 (-1), .int .i64 (-1), .int .i64 (-1), .int .i64 (-1), .int .i64 (-1), .int .i64 (-1), .int .i64 (2), .int .i64 (2), .int .i64 (-1), .int .i64 (-1), .int .i64 (-1), .int .i64 (-1), .int .i64 (-1), .int .i64 (-1), .int .i64 (-1), .int .i64 (-1), .int .i64 (-1), .int .i64 (-1), .int .i64 (0), .int .i64 (0), .int .i64 (0), .int .i64 (-1), .int .i64 (0), .int .i64 (0), .int .i64 (0), .int .i64 (-1), .int .i64 (-1), .int .i64 (5), .int .i64 (8), .int .i64 (-1), .int .i64 (8), .int .i64 (-1), .int .i64 (-1), .int .i64 (1), .int .i64 (1), .int .i64 (-1), .int .i64 (-1), .int .i64 (-1), .int .i64 (8), .int .i64 (-1), .int .i64 (8), .int .i64 (-2), .int .i64 (-2), .int .i64 (-2), .int .i64 (-2), .int .i64 (-2), .int .i64 (-2), .int .i64 (-2), .int .i64 (-2), .int .i64 (-2), .int .i64 (-2)]
set_option maxRecDepth 1000000 in
theorem turns_ev : ecallsH Tryz.prog (HT TT0) 1000 100 141 [] .nil 0 (fun v' _ _ => sameW v' turnsV) = true := by kernel_rfl
def TT1 : XTab := fun f => if f = 141 then some (.tab (tab0 turnsV)) else TT0 f
set_option maxRecDepth 1000000 in
theorem TT1_ok : XTOk Tryz.prog TT1 := by
  intro f k h
  unfold TT1 at h
  split at h
  · rename_i hf; subst hf; cases h
    intro args v g n K hv hK
    obtain ⟨rfl, rfl⟩ := tab0_inv hv
    exact memo_sim (fun B => drawSound (by kernel_rfl) B) TT0_ok 1000 100 rfl rfl turns_ev hK
  · exact TT0_ok f k h
end Go.Proofs.YtjpckcikmfihlaaGreat.Gen

namespace Go.Proofs.YtjpckcikmfihlaaGreat.Gen
open Go Go.Proofs.YtjpckcikmfihlaaGreat.Abs Go.RowKit
def wb0 : Option Blk := (some (.cells [(.int .i64 2), (.int .i64 6), (.int .i64 1), (.int .i64 1), (.int .i64 2), (.int .i64 2), (.int .i64 2)] .exact))
def wt1 : Tr := .node .nil wb0 .nil
def wb2 : Option Blk := (some (.cells [(.pointer (some ⟨10, 0, none⟩)), (.slice none 0 0), (.slice none 0 0), (.slice none 0 0), (.pointer (some ⟨13, 0, none⟩)), (.slice none 0 0), (.slice none 0 0), (.slice none 0 0)] .exact))
def wt3 : Tr := .node .nil wb2 .nil
def wb4 : Option Blk := (some (.cells [(.int .u64 0), (.int .u64 0), (.int .u64 0), (.int .u64 0), (.int .u64 0), (.int .u64 0), (.int .u64 0), (.int .u64 0), (.int .u64 0), (.int .u64 0), (.int .u64 0), (.int .u64 0), (.int .u64 0), (.int .u64 0), (.int .u64 0), (.int .u64 0), (.int .u64 0), (.int .u64 0), (.int .u64 0), (.int .u64 0), (.int .u64 0), (.int .u64 0), (.int .u64 0), (.int .u64 0), (.int .u64 0), (.int .u64 0), (.int .u64 0), (.int .u64 0), (.int .u64 0), (.int .u64 0), (.int .u64 0), (.int .u64 0), (.int .u64 0), (.int .u64 0), (.int .u64 0), (.int .u64 0), (.int .u64 0), (.int .u64 0), (.int .u64 0), (.int .u64 0), (.int .u64 0), (.int .u64 0), (.int .u64 0), (.int .u64 0), (.int .u64 0), (.int .u64 0), (.int .u64 0), (.int .u64 0)] .exact))
def wb5 : Option Blk := (some (.cells [(.int .i64 0), (.int .i64 0), (.int .u64 0), (.int .u64 0), (.int .u64 0), (.int .u64 0), (.int .u64 0), (.int .u64 0), (.int .u64 0), (.int .u64 0), (.int .i64 0), (.int .i64 0), (.int .i64 0), (.int .u64 0), (.int .u64 0), (.int .u64 0), (.int .u64 0), (.int .u64 0), (.int .u64 0), (.int .u64 0), (.int .u64 0), (.int .i64 0)] .exact))
def wt6 : Tr := .node .nil wb5 .nil
def wt7 : Tr := .node wt3 wb4 wt6
def wb8 : Option Blk := (some (.cells [(.int .i64 1), (.int .i64 2), (.slice (some ⟨8, 0, none⟩) 2 2), (.int .i64 0)] .exact))
def wt9 : Tr := .node .nil wb8 .nil
def wb10 : Option Blk := (some (.cells [(.pointer (some ⟨4, 0, none⟩)), (.int .i64 2), (.slice none 0 0)] .exact))
def wb11 : Option Blk := (some (.cells [(.pointer (some ⟨12, 0, none⟩))] .exact))
def wt12 : Tr := .node .nil wb11 .nil
def wt13 : Tr := .node wt9 wb10 wt12
def wt14 : Tr := .node wt7 none wt13
def wb15 : Option Blk := (some (.cells [(.slice (some ⟨3, 0, none⟩) 6 6), (.int .i64 1), (.int .i64 0), (.int .i64 0)] .exact))
def wb16 : Option Blk := (some (.cells [(.int .i64 1), (.int .i64 2), (.slice (some ⟨11, 0, none⟩) 2 2), (.int .i64 0)] .exact))
def wt17 : Tr := .node .nil wb16 .nil
def wt18 : Tr := .node wt6 wb15 wt17
def wb19 : Option Blk := (some (.cells [(.pointer (some ⟨9, 0, none⟩))] .exact))
def wt20 : Tr := .node .nil wb19 .nil
def wb21 : Option Blk := (some (.cells [(.int .i64 2), (.int .i64 6), (.int .i64 1), (.int .i64 1), (.int .i64 2), (.int .i64 2), (.int .i64 2), (.slice (some ⟨7, 0, none⟩) 2 2), (.slice (some ⟨14, 0, none⟩) 6 6), (.pointer (some ⟨5, 0, none⟩)), (.int .i64 0)] .exact))
def wb22 : Option Blk := (some (.cells [(.bool false), (.bool false), (.int .u64 0), (.int .u64 0), (.int .u64 0), (.int .u64 0), (.int .u64 0), (.int .u64 0), (.int .u64 0), (.int .u64 0), (.int .i64 (-1)), (.int .u8 0), (.int .i64 0), (.int .i64 0), (.int .u8 0), (.bool false), (.bool false), (.int .u64 0), (.int .u64 0), (.int .u64 0), (.int .u64 0), (.int .u64 0), (.int .u64 0), (.int .u64 0), (.int .u64 0), (.int .i64 (-1)), (.int .u8 0), (.int .i64 0), (.int .i64 0), (.int .u8 0), (.bool false), (.bool false), (.int .u64 0), (.int .u64 0), (.int .u64 0), (.int .u64 0), (.int .u64 0), (.int .u64 0), (.int .u64 0), (.int .u64 0), (.int .i64 (-1)), (.int .u8 0), (.int .i64 0), (.int .i64 0), (.int .u8 0), (.bool false), (.bool false), (.int .u64 0), (.int .u64 0), (.int .u64 0), (.int .u64 0), (.int .u64 0), (.int .u64 0), (.int .u64 0), (.int .u64 0), (.int .i64 (-1)), (.int .u8 0), (.int .i64 0), (.int .i64 0), (.int .u8 0), (.bool false), (.bool false), (.int .u64 0), (.int .u64 0), (.int .u64 0), (.int .u64 0), (.int .u64 0), (.int .u64 0), (.int .u64 0), (.int .u64 0), (.int .i64 (-1)), (.int .u8 0), (.int .i64 0), (.int .i64 0), (.int .u8 0), (.bool false), (.bool false), (.int .u64 0), (.int .u64 0), (.int .u64 0), (.int .u64 0), (.int .u64 0), (.int .u64 0), (.int .u64 0), (.int .u64 0), (.int .i64 (-1)), (.int .u8 0), (.int .i64 0), (.int .i64 0), (.int .u8 0)] .exact))
def wt23 : Tr := .node .nil wb22 .nil
def wt24 : Tr := .node wt20 wb21 wt23
def wt25 : Tr := .node wt18 none wt24
def wt26 : Tr := .node wt14 wb0 wt25
def wb27 : Option Blk := (some (.cells [(.pointer (some ⟨10, 0, none⟩)), (.slice (some ⟨60, 0, none⟩) 1 4611686018427387916), (.slice none 0 0), (.slice none 0 0), (.pointer (some ⟨13, 0, none⟩)), (.slice none 0 0), (.slice none 0 0), (.slice none 0 0)] .exact))
def wt28 : Tr := .node .nil wb27 .nil
def wt29 : Tr := .node wt28 wb4 wt6
def wb30 : Option Blk := (some (.cells [(.int .i64 1), (.int .i64 2), (.slice (some ⟨8, 0, none⟩) 2 2), (.int .i64 1)] .exact))
def wt31 : Tr := .node .nil wb30 .nil
def wt32 : Tr := .node wt31 wb10 wt12
def wt33 : Tr := .node wt29 none wt32
def wb34 : Option Blk := (some (.cells [(.int .i64 5), (.int .i64 3), (.int .u64 0), (.int .u64 0), (.int .u64 0), (.int .u64 0), (.int .u64 0), (.int .u64 0), (.int .u64 0), (.int .u64 0), (.int .i64 1), (.int .i64 0), (.int .i64 0), (.int .u64 0), (.int .u64 0), (.int .u64 0), (.int .u64 0), (.int .u64 0), (.int .u64 0), (.int .u64 0), (.int .u64 0), (.int .i64 0)] .exact))
def wt35 : Tr := .node .nil wb34 .nil
def wb36 : Option Blk := (some (.cells [(.int .i64 2), (.int .i64 3), (.bool false), (.bool false), (.int .u64 0), (.int .u64 0), (.int .u64 0), (.int .u64 0), (.int .u64 0), (.int .u64 0), (.int .u64 0), (.int .u64 0)] (.loose 12)))
def wt37 : Tr := .node .nil wb36 .nil
def wt38 : Tr := .node .nil none wt37
def wt39 : Tr := .node .nil wb16 wt38
def wt40 : Tr := .node wt35 wb15 wt39
def wb41 : Option Blk := (some (.cells [(.int .i64 2), (.int .i64 6), (.int .i64 1), (.int .i64 1), (.int .i64 2), (.int .i64 2), (.int .i64 2), (.slice (some ⟨7, 0, none⟩) 2 2), (.slice (some ⟨14, 0, none⟩) 6 6), (.pointer (some ⟨5, 0, none⟩)), (.int .i64 1)] .exact))
def wt42 : Tr := .node wt20 wb41 wt23
def wt43 : Tr := .node wt40 none wt42
def wt44 : Tr := .node wt33 wb0 wt43
def wb45 : Option Blk := (some (.cells [(.pointer (some ⟨10, 0, none⟩)), (.slice (some ⟨60, 12, none⟩) 0 4611686018427387916), (.slice none 0 0), (.slice (some ⟨84, 0, none⟩) 1 4611686018427387916), (.pointer (some ⟨13, 0, none⟩)), (.slice none 0 0), (.slice none 0 0), (.slice none 0 0)] .exact))
def wt46 : Tr := .node .nil wb45 .nil
def wt47 : Tr := .node wt46 wb4 wt6
def wt48 : Tr := .node wt47 none wt32
def wb49 : Option Blk := (some (.cells [(.slice (some ⟨3, 0, none⟩) 6 6), (.int .i64 1), (.int .i64 1), (.int .i64 0)] .exact))
def wb50 : Option Blk := (some (.cells [(.int .i64 10), (.int .i64 3), (.bool false), (.bool false), (.int .u64 0), (.int .u64 0), (.int .u64 0), (.int .u64 0), (.int .u64 0), (.int .u64 0), (.int .u64 0), (.int .u64 0)] (.loose 12)))
def wt51 : Tr := .node .nil wb50 .nil
def wt52 : Tr := .node wt51 none .nil
def wt53 : Tr := .node .nil none wt52
def wt54 : Tr := .node wt53 wb16 wt38
def wt55 : Tr := .node wt35 wb49 wt54
def wb56 : Option Blk := (some (.cells [(.int .i64 2), (.int .i64 6), (.int .i64 1), (.int .i64 1), (.int .i64 2), (.int .i64 2), (.int .i64 2), (.slice (some ⟨7, 0, none⟩) 2 2), (.slice (some ⟨14, 0, none⟩) 6 6), (.pointer (some ⟨5, 0, none⟩)), (.int .i64 3)] .exact))
def wb57 : Option Blk := (some (.cells [(.bool false), (.bool false), (.int .u64 0), (.int .u64 0), (.int .u64 0), (.int .u64 0), (.int .u64 0), (.int .u64 0), (.int .u64 0), (.int .u64 0), (.int .i64 (-1)), (.int .u8 0), (.int .i64 0), (.int .i64 0), (.int .u8 0), (.bool false), (.bool false), (.int .u64 0), (.int .u64 0), (.int .u64 0), (.int .u64 0), (.int .u64 0), (.int .u64 0), (.int .u64 0), (.int .u64 0), (.int .i64 (-1)), (.int .u8 0), (.int .i64 0), (.int .i64 0), (.int .u8 0), (.bool false), (.bool false), (.int .u64 0), (.int .u64 0), (.int .u64 0), (.int .u64 0), (.int .u64 0), (.int .u64 0), (.int .u64 0), (.int .u64 0), (.int .i64 (-1)), (.int .u8 0), (.int .i64 0), (.int .i64 0), (.int .u8 0), (.bool true), (.bool false), (.int .u64 0), (.int .u64 0), (.int .u64 0), (.int .u64 0), (.int .u64 0), (.int .u64 0), (.int .u64 0), (.int .u64 0), (.int .i64 0), (.int .u8 0), (.int .i64 0), (.int .i64 0), (.int .u8 0), (.bool false), (.bool false), (.int .u64 0), (.int .u64 0), (.int .u64 0), (.int .u64 0), (.int .u64 0), (.int .u64 0), (.int .u64 0), (.int .u64 0), (.int .i64 (-1)), (.int .u8 0), (.int .i64 0), (.int .i64 0), (.int .u8 0), (.bool false), (.bool false), (.int .u64 0), (.int .u64 0), (.int .u64 0), (.int .u64 0), (.int .u64 0), (.int .u64 0), (.int .u64 0), (.int .u64 0), (.int .i64 (-1)), (.int .u8 0), (.int .i64 0), (.int .i64 0), (.int .u8 0)] .exact))
def wt58 : Tr := .node .nil wb57 .nil
def wt59 : Tr := .node wt20 wb56 wt58
def wt60 : Tr := .node wt55 none wt59
def wt61 : Tr := .node wt48 wb0 wt60
def wb62 : Option Blk := (some (.cells [(.pointer (some ⟨10, 0, none⟩)), (.slice (some ⟨60, 12, none⟩) 0 4611686018427387916), (.slice none 0 0), (.slice (some ⟨84, 12, none⟩) 0 4611686018427387916), (.pointer (some ⟨13, 0, none⟩)), (.slice none 0 0), (.slice none 0 0), (.slice none 0 0)] .exact))
def wt63 : Tr := .node .nil wb62 .nil
def wt64 : Tr := .node wt63 wb4 wt6
def wb65 : Option Blk := (some (.cells [(.int .i64 1), (.int .i64 2), (.slice (some ⟨8, 0, none⟩) 2 2), (.int .i64 2)] .exact))
def wt66 : Tr := .node .nil wb65 .nil
def wt67 : Tr := .node wt66 wb10 wt12
def wt68 : Tr := .node wt64 none wt67
def wb69 : Option Blk := (some (.cells [(.int .i64 2), (.int .i64 3), (.int .u64 0), (.int .u64 0), (.int .u64 0), (.int .u64 0), (.int .u64 0), (.int .u64 0), (.int .u64 0), (.int .u64 0), (.int .i64 2), (.int .i64 0), (.int .i64 0), (.int .u64 0), (.int .u64 0), (.int .u64 0), (.int .u64 0), (.int .u64 0), (.int .u64 0), (.int .u64 0), (.int .u64 0), (.int .i64 0)] .exact))
def wt70 : Tr := .node .nil wb69 .nil
def wt71 : Tr := .node wt70 wb49 wt54
def wb72 : Option Blk := (some (.cells [(.int .i64 2), (.int .i64 6), (.int .i64 1), (.int .i64 1), (.int .i64 2), (.int .i64 2), (.int .i64 2), (.slice (some ⟨7, 0, none⟩) 2 2), (.slice (some ⟨14, 0, none⟩) 6 6), (.pointer (some ⟨5, 0, none⟩)), (.int .i64 4)] .exact))
def wt73 : Tr := .node wt20 wb72 wt58
def wt74 : Tr := .node wt71 none wt73
def wt75 : Tr := .node wt68 wb0 wt74
def wb76 : Option Blk := (some (.cells [(.int .i64 10), (.int .i64 3), (.bool false), (.bool false), (.int .u64 0), (.int .u64 0), (.int .u64 0), (.int .u64 0), (.int .u64 0), (.int .u64 0), (.int .u64 0), (.int .u64 0)] .exact))
def wt77 : Tr := .node .nil wb76 .nil
def wt78 : Tr := .node .nil none wt77
def wt79 : Tr := .node wt78 none .nil
def wt80 : Tr := .node .nil wb19 wt79
def wt81 : Tr := .node wt80 wb72 wt58
def wt82 : Tr := .node wt71 none wt81
def wt83 : Tr := .node wt68 wb0 wt82
def wb84 : Option Blk := (some (.cells [(.int .i64 1), (.int .i64 2), (.slice (some ⟨8, 0, none⟩) 2 2), (.int .i64 3)] .exact))
def wt85 : Tr := .node .nil wb84 .nil
def wt86 : Tr := .node wt85 wb10 wt12
def wt87 : Tr := .node wt64 none wt86
def wb88 : Option Blk := (some (.cells [(.int .i64 3), (.int .i64 3), (.int .u64 0), (.int .u64 7), (.int .u64 0), (.int .u64 0), (.int .u64 0), (.int .u64 0), (.int .u64 0), (.int .u64 0), (.int .i64 3), (.int .i64 0), (.int .i64 0), (.int .u64 0), (.int .u64 0), (.int .u64 0), (.int .u64 0), (.int .u64 0), (.int .u64 0), (.int .u64 0), (.int .u64 0), (.int .i64 0)] .exact))
def wt89 : Tr := .node .nil wb88 .nil
def wt90 : Tr := .node wt89 wb49 wt54
def wb91 : Option Blk := (some (.cells [(.int .i64 2), (.int .i64 6), (.int .i64 1), (.int .i64 1), (.int .i64 2), (.int .i64 2), (.int .i64 2), (.slice (some ⟨7, 0, none⟩) 2 2), (.slice (some ⟨14, 0, none⟩) 6 6), (.pointer (some ⟨5, 0, none⟩)), (.int .i64 5)] .exact))
def wt92 : Tr := .node wt80 wb91 wt58
def wt93 : Tr := .node wt90 none wt92
def wt94 : Tr := .node wt87 wb0 wt93
def wb95 : Option Blk := (some (.cells [(.pointer (some ⟨10, 0, none⟩)), (.slice (some ⟨60, 12, none⟩) 0 4611686018427387916), (.slice none 0 0), (.slice (some ⟨84, 12, none⟩) 0 4611686018427387916), (.pointer (some ⟨13, 0, none⟩)), (.slice (some ⟨147, 0, none⟩) 1 4611686018427387916), (.slice none 0 0), (.slice none 0 0)] .exact))
def wt96 : Tr := .node .nil wb95 .nil
def wb97 : Option Blk := (some (.cells [(.int .i64 1), (.int .i64 3), (.bool false), (.bool false), (.int .u64 0), (.int .u64 0), (.int .u64 0), (.int .u64 0), (.int .u64 0), (.int .u64 0), (.int .u64 0), (.int .u64 0)] (.loose 12)))
def wt98 : Tr := .node .nil wb97 .nil
def wt99 : Tr := .node wt98 none .nil
def wt100 : Tr := .node wt99 none .nil
def wt101 : Tr := .node .nil none wt100
def wb102 : Option Blk := (some (.cells [(.int .i64 4), (.int .i64 3), (.int .u64 0), (.int .u64 0), (.int .u64 0), (.int .u64 0), (.int .u64 0), (.int .u64 0), (.int .u64 0), (.int .u64 0), (.int .i64 1), (.int .i64 0), (.int .i64 0), (.int .u64 0), (.int .u64 0), (.int .u64 0), (.int .u64 0), (.int .u64 0), (.int .u64 0), (.int .u64 0), (.int .u64 0), (.int .i64 0)] .exact))
def wt103 : Tr := .node wt101 wb102 .nil
def wt104 : Tr := .node wt96 wb4 wt103
def wt105 : Tr := .node wt104 none wt86
def wb106 : Option Blk := (some (.cells [(.int .i64 1), (.int .i64 2), (.slice (some ⟨11, 0, none⟩) 2 2), (.int .i64 1)] .exact))
def wt107 : Tr := .node wt53 wb106 wt38
def wt108 : Tr := .node wt89 wb49 wt107
def wb109 : Option Blk := (some (.cells [(.int .i64 2), (.int .i64 6), (.int .i64 1), (.int .i64 1), (.int .i64 2), (.int .i64 2), (.int .i64 2), (.slice (some ⟨7, 0, none⟩) 2 2), (.slice (some ⟨14, 0, none⟩) 6 6), (.pointer (some ⟨5, 0, none⟩)), (.int .i64 6)] .exact))
def wt110 : Tr := .node wt80 wb109 wt58
def wt111 : Tr := .node wt108 none wt110
def wt112 : Tr := .node wt105 wb0 wt111
def wb113 : Option Blk := (some (.cells [(.pointer (some ⟨10, 0, none⟩)), (.slice (some ⟨60, 12, none⟩) 0 4611686018427387916), (.slice none 0 0), (.slice (some ⟨173, 0, none⟩) 1 4611686018427387916), (.pointer (some ⟨13, 0, none⟩)), (.slice (some ⟨147, 12, none⟩) 0 4611686018427387916), (.slice none 0 0), (.slice none 0 0)] .exact))
def wt114 : Tr := .node .nil wb113 .nil
def wt115 : Tr := .node wt114 wb4 wt103
def wb116 : Option Blk := (some (.cells [(.int .i64 13), (.int .i64 3), (.bool false), (.bool false), (.int .u64 0), (.int .u64 0), (.int .u64 0), (.int .u64 0), (.int .u64 0), (.int .u64 0), (.int .u64 0), (.int .u64 0)] (.loose 12)))
def wt117 : Tr := .node .nil wb116 .nil
def wt118 : Tr := .node wt117 none .nil
def wt119 : Tr := .node .nil none wt118
def wt120 : Tr := .node wt119 none .nil
def wt121 : Tr := .node .nil wb11 wt120
def wt122 : Tr := .node wt85 wb10 wt121
def wt123 : Tr := .node wt115 none wt122
def wt124 : Tr := .node .nil wb106 wt38
def wt125 : Tr := .node wt89 wb49 wt124
def wb126 : Option Blk := (some (.cells [(.int .i64 2), (.int .i64 6), (.int .i64 1), (.int .i64 1), (.int .i64 2), (.int .i64 2), (.int .i64 2), (.slice (some ⟨7, 0, none⟩) 2 2), (.slice (some ⟨14, 0, none⟩) 6 6), (.pointer (some ⟨5, 0, none⟩)), (.int .i64 8)] .exact))
def wb127 : Option Blk := (some (.cells [(.bool false), (.bool false), (.int .u64 0), (.int .u64 0), (.int .u64 0), (.int .u64 0), (.int .u64 0), (.int .u64 0), (.int .u64 0), (.int .u64 0), (.int .i64 (-1)), (.int .u8 0), (.int .i64 0), (.int .i64 0), (.int .u8 0), (.bool false), (.bool false), (.int .u64 0), (.int .u64 0), (.int .u64 0), (.int .u64 0), (.int .u64 0), (.int .u64 0), (.int .u64 0), (.int .u64 0), (.int .i64 (-1)), (.int .u8 0), (.int .i64 0), (.int .i64 0), (.int .u8 0), (.bool false), (.bool false), (.int .u64 0), (.int .u64 0), (.int .u64 0), (.int .u64 0), (.int .u64 0), (.int .u64 0), (.int .u64 0), (.int .u64 0), (.int .i64 (-1)), (.int .u8 0), (.int .i64 0), (.int .i64 0), (.int .u8 0), (.bool true), (.bool false), (.int .u64 0), (.int .u64 0), (.int .u64 0), (.int .u64 0), (.int .u64 0), (.int .u64 0), (.int .u64 0), (.int .u64 0), (.int .i64 0), (.int .u8 0), (.int .i64 1), (.int .i64 1), (.int .u8 1), (.bool false), (.bool false), (.int .u64 0), (.int .u64 0), (.int .u64 0), (.int .u64 0), (.int .u64 0), (.int .u64 0), (.int .u64 0), (.int .u64 0), (.int .i64 (-1)), (.int .u8 0), (.int .i64 0), (.int .i64 0), (.int .u8 0), (.bool false), (.bool false), (.int .u64 0), (.int .u64 0), (.int .u64 0), (.int .u64 0), (.int .u64 0), (.int .u64 0), (.int .u64 0), (.int .u64 0), (.int .i64 (-1)), (.int .u8 0), (.int .i64 0), (.int .i64 0), (.int .u8 0)] .exact))
def wt128 : Tr := .node .nil wb127 .nil
def wt129 : Tr := .node wt80 wb126 wt128
def wt130 : Tr := .node wt125 none wt129
def wt131 : Tr := .node wt123 wb0 wt130
def wb132 : Option Blk := (some (.cells [(.pointer (some ⟨10, 0, none⟩)), (.slice (some ⟨60, 12, none⟩) 0 4611686018427387916), (.slice (some ⟨201, 0, none⟩) 1 4611686018427387916), (.slice (some ⟨173, 12, none⟩) 0 4611686018427387916), (.pointer (some ⟨13, 0, none⟩)), (.slice (some ⟨147, 12, none⟩) 0 4611686018427387916), (.slice none 0 0), (.slice none 0 0)] .exact))
def wt133 : Tr := .node .nil wb132 .nil
def wt134 : Tr := .node wt133 wb4 wt103
def wb135 : Option Blk := (some (.cells [(.int .i64 1), (.int .i64 2), (.slice (some ⟨8, 0, none⟩) 2 2), (.int .i64 4)] .exact))
def wb136 : Option Blk := (some (.cells [(.int .i64 7), (.int .i64 3), (.bool true), (.bool true), (.int .u64 0), (.int .u64 7), (.int .u64 0), (.int .u64 0), (.int .u64 0), (.int .u64 0), (.int .u64 0), (.int .u64 0)] (.loose 12)))
def wt137 : Tr := .node .nil wb136 .nil
def wt138 : Tr := .node .nil none wt137
def wt139 : Tr := .node wt138 none .nil
def wt140 : Tr := .node wt139 none .nil
def wt141 : Tr := .node .nil wb135 wt140
def wt142 : Tr := .node wt141 wb10 wt121
def wt143 : Tr := .node wt134 none wt142
def wb144 : Option Blk := (some (.cells [(.int .i64 1), (.int .i64 3), (.int .u64 0), (.int .u64 7), (.int .u64 0), (.int .u64 0), (.int .u64 0), (.int .u64 0), (.int .u64 0), (.int .u64 0), (.int .i64 4), (.int .i64 0), (.int .i64 0), (.int .u64 0), (.int .u64 0), (.int .u64 0), (.int .u64 0), (.int .u64 0), (.int .u64 0), (.int .u64 0), (.int .u64 0), (.int .i64 0)] .exact))
def wt145 : Tr := .node .nil wb144 .nil
def wt146 : Tr := .node wt145 wb49 wt124
def wb147 : Option Blk := (some (.cells [(.int .i64 2), (.int .i64 6), (.int .i64 1), (.int .i64 1), (.int .i64 2), (.int .i64 2), (.int .i64 2), (.slice (some ⟨7, 0, none⟩) 2 2), (.slice (some ⟨14, 0, none⟩) 6 6), (.pointer (some ⟨5, 0, none⟩)), (.int .i64 9)] .exact))
def wt148 : Tr := .node wt80 wb147 wt128
def wt149 : Tr := .node wt146 none wt148
def wt150 : Tr := .node wt143 wb0 wt149
def wb151 : Option Blk := (some (.cells [(.int .i64 8), (.int .i64 3), (.bool false), (.bool false), (.int .u64 0), (.int .u64 7), (.int .u64 0), (.int .u64 0), (.int .u64 0), (.int .u64 0), (.int .u64 0), (.int .u64 0)] (.loose 12)))
def wt152 : Tr := .node .nil wb151 .nil
def wt153 : Tr := .node .nil none wt152
def wt154 : Tr := .node .nil none wt153
def wt155 : Tr := .node wt154 none .nil
def wb156 : Option Blk := (some (.cells [(.pointer (some ⟨10, 0, none⟩)), (.slice (some ⟨60, 12, none⟩) 0 4611686018427387916), (.slice (some ⟨201, 12, none⟩) 0 4611686018427387916), (.slice (some ⟨173, 12, none⟩) 0 4611686018427387916), (.pointer (some ⟨13, 0, none⟩)), (.slice (some ⟨147, 12, none⟩) 0 4611686018427387916), (.slice none 0 0), (.slice (some ⟨223, 0, none⟩) 1 4611686018427387916)] .exact))
def wt157 : Tr := .node wt155 wb156 .nil
def wt158 : Tr := .node wt157 wb4 wt103
def wt159 : Tr := .node wt158 none wt142
def wb160 : Option Blk := (some (.cells [(.int .i64 2), (.int .i64 6), (.int .i64 1), (.int .i64 1), (.int .i64 2), (.int .i64 2), (.int .i64 2), (.slice (some ⟨7, 0, none⟩) 2 2), (.slice (some ⟨14, 0, none⟩) 6 6), (.pointer (some ⟨5, 0, none⟩)), (.int .i64 11)] .exact))
def wb161 : Option Blk := (some (.cells [(.bool false), (.bool false), (.int .u64 0), (.int .u64 0), (.int .u64 0), (.int .u64 0), (.int .u64 0), (.int .u64 0), (.int .u64 0), (.int .u64 0), (.int .i64 (-1)), (.int .u8 0), (.int .i64 0), (.int .i64 0), (.int .u8 0), (.bool false), (.bool false), (.int .u64 0), (.int .u64 0), (.int .u64 0), (.int .u64 0), (.int .u64 0), (.int .u64 0), (.int .u64 0), (.int .u64 0), (.int .i64 (-1)), (.int .u8 0), (.int .i64 0), (.int .i64 0), (.int .u8 0), (.bool false), (.bool false), (.int .u64 0), (.int .u64 0), (.int .u64 0), (.int .u64 0), (.int .u64 0), (.int .u64 0), (.int .u64 0), (.int .u64 0), (.int .i64 (-1)), (.int .u8 0), (.int .i64 0), (.int .i64 0), (.int .u8 0), (.bool true), (.bool true), (.int .u64 0), (.int .u64 7), (.int .u64 0), (.int .u64 0), (.int .u64 0), (.int .u64 0), (.int .u64 0), (.int .u64 0), (.int .i64 (-1)), (.int .u8 3), (.int .i64 0), (.int .i64 0), (.int .u8 0), (.bool false), (.bool false), (.int .u64 0), (.int .u64 0), (.int .u64 0), (.int .u64 0), (.int .u64 0), (.int .u64 0), (.int .u64 0), (.int .u64 0), (.int .i64 (-1)), (.int .u8 0), (.int .i64 0), (.int .i64 0), (.int .u8 0), (.bool false), (.bool false), (.int .u64 0), (.int .u64 0), (.int .u64 0), (.int .u64 0), (.int .u64 0), (.int .u64 0), (.int .u64 0), (.int .u64 0), (.int .i64 (-1)), (.int .u8 0), (.int .i64 0), (.int .i64 0), (.int .u8 0)] .exact))
def wt162 : Tr := .node .nil wb161 .nil
def wt163 : Tr := .node wt80 wb160 wt162
def wt164 : Tr := .node wt146 none wt163
def wt165 : Tr := .node wt159 wb0 wt164
def wb166 : Option Blk := (some (.cells [(.pointer (some ⟨10, 0, none⟩)), (.slice (some ⟨60, 12, none⟩) 0 4611686018427387916), (.slice (some ⟨201, 12, none⟩) 0 4611686018427387916), (.slice (some ⟨173, 12, none⟩) 0 4611686018427387916), (.pointer (some ⟨13, 0, none⟩)), (.slice (some ⟨147, 12, none⟩) 0 4611686018427387916), (.slice none 0 0), (.slice (some ⟨223, 12, none⟩) 0 4611686018427387916)] .exact))
def wt167 : Tr := .node wt155 wb166 .nil
def wb168 : Option Blk := (some (.cells [(.int .i64 1), (.int .i64 3), (.int .u64 0), (.int .u64 7), (.int .u64 0), (.int .u64 0), (.int .u64 0), (.int .u64 0), (.int .u64 0), (.int .u64 0), (.int .i64 2), (.int .i64 0), (.int .i64 0), (.int .u64 0), (.int .u64 0), (.int .u64 0), (.int .u64 0), (.int .u64 0), (.int .u64 0), (.int .u64 0), (.int .u64 0), (.int .i64 0)] .exact))
def wt169 : Tr := .node wt101 wb168 .nil
def wt170 : Tr := .node wt167 wb4 wt169
def wt171 : Tr := .node wt170 none wt142
def wb172 : Option Blk := (some (.cells [(.int .i64 1), (.int .i64 2), (.slice (some ⟨11, 0, none⟩) 2 2), (.int .i64 2)] .exact))
def wt173 : Tr := .node .nil wb172 wt38
def wt174 : Tr := .node wt145 wb49 wt173
def wb175 : Option Blk := (some (.cells [(.int .i64 2), (.int .i64 6), (.int .i64 1), (.int .i64 1), (.int .i64 2), (.int .i64 2), (.int .i64 2), (.slice (some ⟨7, 0, none⟩) 2 2), (.slice (some ⟨14, 0, none⟩) 6 6), (.pointer (some ⟨5, 0, none⟩)), (.int .i64 12)] .exact))
def wt176 : Tr := .node wt80 wb175 wt162
def wt177 : Tr := .node wt174 none wt176
def wt178 : Tr := .node wt171 wb0 wt177
def wb179 : Option Blk := (some (.cells [(.int .i64 1), (.int .i64 3), (.int .u64 0), (.int .u64 7), (.int .u64 0), (.int .u64 0), (.int .u64 0), (.int .u64 0), (.int .u64 0), (.int .u64 0), (.int .i64 3), (.int .i64 0), (.int .i64 0), (.int .u64 0), (.int .u64 0), (.int .u64 0), (.int .u64 0), (.int .u64 0), (.int .u64 0), (.int .u64 0), (.int .u64 0), (.int .i64 0)] .exact))
def wt180 : Tr := .node wt101 wb179 .nil
def wt181 : Tr := .node wt167 wb4 wt180
def wt182 : Tr := .node wt181 none wt142
def wb183 : Option Blk := (some (.cells [(.int .i64 1), (.int .i64 2), (.slice (some ⟨11, 0, none⟩) 2 2), (.int .i64 3)] .exact))
def wt184 : Tr := .node .nil wb183 wt38
def wt185 : Tr := .node wt145 wb49 wt184
def wb186 : Option Blk := (some (.cells [(.int .i64 2), (.int .i64 6), (.int .i64 1), (.int .i64 1), (.int .i64 2), (.int .i64 2), (.int .i64 2), (.slice (some ⟨7, 0, none⟩) 2 2), (.slice (some ⟨14, 0, none⟩) 6 6), (.pointer (some ⟨5, 0, none⟩)), (.int .i64 13)] .exact))
def wt187 : Tr := .node wt80 wb186 wt162
def wt188 : Tr := .node wt185 none wt187
def wt189 : Tr := .node wt182 wb0 wt188
abbrev wh0 : Tr := wt1
abbrev wk0 : Tr := wt26
def wr0 : Row := ⟨13, [(.agg #[(.int .i64 2), (.int .i64 6), (.int .i64 1), (.int .i64 1), (.int .i64 2), (.int .i64 2), (.int .i64 2)]), (.slice none 0 0)], wh0, 1, (.tuple #[(.pointer (some ⟨6, 0, none⟩)), (.int .i64 0)]), wk0, 21⟩
abbrev wh1 : Tr := wt26
abbrev wk1 : Tr := wt44
def wr1 : Row := ⟨34, [(.pointer (some ⟨6, 0, none⟩)), (.int .i64 0), (.int .i64 3), (.int .i64 1), (.int .u64 7)], wh1, 21, (.bool false), wk1, 61⟩
abbrev wh2 : Tr := wt44
abbrev wk2 : Tr := wt61
def wr2 : Row := ⟨35, [(.pointer (some ⟨6, 0, none⟩)), (.int .i64 0)], wh2, 61, (.int .i64 0), wk2, 85⟩
abbrev wh3 : Tr := wt61
abbrev wk3 : Tr := wt75
def wr3 : Row := ⟨36, [(.pointer (some ⟨6, 0, none⟩)), (.int .i64 0)], wh3, 85, (.tuple #[(.agg #[(.int .i64 10), (.int .i64 3), (.bool false), (.bool false), (.int .u64 0), (.int .u64 0), (.int .u64 0), (.int .u64 0), (.int .u64 0), (.int .u64 0), (.int .u64 0), (.int .u64 0)]), (.int .i64 0)]), wk3, 106⟩
abbrev wh4 : Tr := wt83
abbrev wk4 : Tr := wt94
def wr4 : Row := ⟨34, [(.pointer (some ⟨6, 0, none⟩)), (.int .i64 0), (.int .i64 3), (.int .i64 1), (.int .u64 7)], wh4, 107, (.bool true), wk4, 122⟩
abbrev wh5 : Tr := wt94
abbrev wk5 : Tr := wt112
def wr5 : Row := ⟨16, [(.pointer (some ⟨6, 0, none⟩)), (.int .i64 1), (.int .i64 3), (.int .i64 1)], wh5, 122, (.tuple #[(.int .u64 0), (.bool false)]), wk5, 148⟩
abbrev wh6 : Tr := wt112
abbrev wk6 : Tr := wt131
def wr6 : Row := ⟨35, [(.pointer (some ⟨6, 0, none⟩)), (.int .i64 1)], wh6, 148, (.int .i64 0), wk6, 174⟩
abbrev wh7 : Tr := wt131
abbrev wk7 : Tr := wt150
def wr7 : Row := ⟨36, [(.pointer (some ⟨6, 0, none⟩)), (.int .i64 0)], wh7, 174, (.tuple #[(.agg #[(.int .i64 13), (.int .i64 3), (.bool false), (.bool false), (.int .u64 0), (.int .u64 0), (.int .u64 0), (.int .u64 0), (.int .u64 0), (.int .u64 0), (.int .u64 0), (.int .u64 0)]), (.int .i64 0)]), wk7, 202⟩
abbrev wh8 : Tr := wt150
abbrev wk8 : Tr := wt165
def wr8 : Row := ⟨37, [(.pointer (some ⟨6, 0, none⟩)), (.int .i64 0)], wh8, 202, (.int .i64 0), wk8, 224⟩
abbrev wh9 : Tr := wt165
abbrev wk9 : Tr := wt178
def wr9 : Row := ⟨36, [(.pointer (some ⟨6, 0, none⟩)), (.int .i64 1)], wh9, 224, (.tuple #[(.agg #[(.int .i64 8), (.int .i64 3), (.bool false), (.bool false), (.int .u64 0), (.int .u64 7), (.int .u64 0), (.int .u64 0), (.int .u64 0), (.int .u64 0), (.int .u64 0), (.int .u64 0)]), (.int .i64 0)]), wk9, 245⟩
abbrev wh10 : Tr := wt178
abbrev wk10 : Tr := wt189
def wr10 : Row := ⟨16, [(.pointer (some ⟨6, 0, none⟩)), (.int .i64 1), (.int .i64 3), (.int .i64 1)], wh10, 245, (.tuple #[(.int .u64 7), (.bool true)]), wk10, 253⟩
end Go.Proofs.YtjpckcikmfihlaaGreat.Gen

namespace Go.Proofs.YtjpckcikmfihlaaGreat.Gen
open Go Go.Proofs.YtjpckcikmfihlaaGreat.Abs Go.RowKit
set_option maxRecDepth 1000000 in
theorem wr0_ok : wr0.ok Tryz.prog (HT TT1) 1000 100 = true := by kernel_rfl
set_option maxRecDepth 1000000 in
theorem wr3_ok : wr3.ok Tryz.prog (HT TT1) 1000 100 = true := by kernel_rfl
set_option maxRecDepth 1000000 in
theorem wr6_ok : wr6.ok Tryz.prog (HT TT1) 1000 100 = true := by kernel_rfl
set_option maxRecDepth 1000000 in
theorem wr9_ok : wr9.ok Tryz.prog (HT TT1) 1000 100 = true := by kernel_rfl
end Go.Proofs.YtjpckcikmfihlaaGreat.Gen
