import Derived.Test.YtiegodhlhidiiaaGreatSpecCoreNoneB
/- What the functions come to. -/
set_option linter.all false
set_option linter.deprecated false
namespace Go.Proofs.YtiegodhlhidiiaaGreat.Gen
open Go Go.Proofs.YtiegodhlhidiiaaGreat.Abs Go.RowKit
set_option maxRecDepth 1000000 in
theorem wr2_ok : wr2.ok Tryz.prog (HT TT1) 1000 100 = true := by kernel_rfl
set_option maxRecDepth 1000000 in
theorem wr5_ok : wr5.ok Tryz.prog (HT TT1) 1000 100 = true := by kernel_rfl
end Go.Proofs.YtiegodhlhidiiaaGreat.Gen

namespace Go.Proofs.YtiegodhlhidiiaaGreat.Gen
open Go Go.Proofs.YtiegodhlhidiiaaGreat.Abs Go.RowKit
def wrows : List Row := [wr0, wr1, wr2, wr3, wr4, wr5, wr6]
theorem wrows_ok : ∀ r ∈ wrows, r.ok Tryz.prog (HT TT1) 1000 100 = true := by
  intro r hr
  simp only [wrows, List.mem_cons, List.not_mem_nil, or_false] at hr
  rcases hr with rfl | rfl | rfl | rfl | rfl | rfl | rfl
  · exact wr0_ok
  · exact wr1_ok
  · exact wr2_ok
  · exact wr3_ok
  · exact wr4_ok
  · exact wr5_ok
  · exact wr6_ok
set_option maxRecDepth 1000000 in
theorem wtop_ev : ecallsH Tryz.prog (rowsH [15, 6, 17, 7] wrows (HT TT1)) 1000 100 4 [] .nil 0 (fun v' _ _ => sameW v' (.bool true)) = true := by kernel_rfl
set_option maxRecDepth 1000000 in
theorem wakes_sim {g : G} {n : Nat} {K : Cont} (hK : K (.bool true) g n) : CSim Tryz.prog 4 [] g n K :=
  closed_sound (fun B => drawSound (by kernel_rfl) B) (rowsH_ok (fun r hr => Row.sound (fun B => drawSound (by kernel_rfl) B) (HT_ok (XF_sound TT1_ok)) (wrows_ok r hr)) (HT_ok (XF_sound TT1_ok))) 1000 100 rfl rfl wtop_ev hK
end Go.Proofs.YtiegodhlhidiiaaGreat.Gen

namespace Go.Proofs.YtiegodhlhidiiaaGreat.Gen
open Go Go.Proofs.YtiegodhlhidiiaaGreat.Abs Go.RowKit
variable {g : G} {n : Nat}
def TT : XTab := fun f => if f = 4 then some (.tab (tab0 (.bool true))) else TT1 f
set_option maxRecDepth 1000000 in
theorem TT_ok : XTOk Tryz.prog TT := by
  intro f k h
  unfold TT at h
  split at h
  · rename_i hf; subst hf; cases h
    intro args v g n K hv hK
    obtain ⟨rfl, rfl⟩ := tab0_inv hv
    exact wakes_sim hK
  · exact TT1_ok f k h
abbrev AC : CT := ACalls Tryz.prog (XP Tryz.prog TT)
theorem X0_mono : XMono (XP Tryz.prog TT) := XP_mono _
/-- a call of plain values that an evaluation tells -/
theorem AC_ev {f : FuncId} {args : List Value} {K : Cont} (v : Value) (fuel depth : Nat) (h1 : plain 3 v = true) (h2 : args.all (plain 3) = true) (h3 : ecallsH Tryz.prog (HT TT) fuel depth f args .nil 0 (fun v' _ _ => sameW v' v) = true) (hK : ∀ n', K v g n') : AC f args g n K :=
  fun C hC => hC.2 _ _ _ _ _ (.inr ⟨v, fuel, depth, h1, h2, h3, hK⟩)
theorem doSlow_tell {args : List Value} {K : Cont} (h : kSlow AC [37, 106] args g n K) : AC 57 args g n K := ACalls.foreign X0_mono (.inl h)
theorem LoadUint32_tell {args : List Value} {K : Cont} (h : kLoadX .u32 args g n K) : AC 77 args g n K := ACalls.foreign X0_mono (.inl h)
theorem AddInt64_tell {args : List Value} {K : Cont} (h : kAddX .i64 args g n K) : AC 92 args g n K := ACalls.foreign X0_mono (.inl h)
theorem wakes_tell {K : Cont} (hK : K (.bool true) g n) : AC 4 [] g n K := ACalls.foreign X0_mono (.inl hK)

theorem kSplit_t {b : Bool} {A B : Prop} (h : b = true) (k : A) : kSplit (.bool b) A B := by subst h; exact k
theorem kSplit_f {b : Bool} {A B : Prop} (h : b = false) (k : B) : kSplit (.bool b) A B := by subst h; exact k
theorem take_add {α : Type} {xs : List α} {i : Nat} {x : α} (h : xs[i]? = some x) : xs.take (i + 1) = xs.take i ++ [x] := by rw [List.take_add_one, h]; rfl
theorem drop_get {α : Type} {xs : List α} {i : Nat} {x : α} (h : xs[i]? = some x) : xs.drop i = x :: xs.drop (i + 1) := by
  rw [List.drop_eq_getElem?_toList_append, h]; rfl
def idxV (o : Option Nat) : Value := match o with | some i => .int .i64 (i : Nat) | none => .int .i64 (-1)
theorem filter_take_none {α : Type} {p : α → Bool} {xs : List α} {i : Nat} (h : ∀ x ∈ xs.take i, p x = false) : (xs.take i).filter (fun x => !p x) = xs.take i := by
  rw [List.filter_eq_self]; intro x hx; simp [h x hx]
abbrev Ln := { w : List Int // w.length = 8 }
def encL (l : Ln) : List Value := l.1.map (.int .u64 ·)
theorem encL_len (l : Ln) : (encL l).length = 8 := by simp [encL, l.2]
theorem encL_cell (l : Ln) : ∀ v ∈ encL l, isCell v = true := by simp [encL, isCell]
def zeroL : Ln := ⟨[0, 0, 0, 0, 0, 0, 0, 0], rfl⟩
def Ln.put (l : Ln) (w : Nat) (v : Int) : Ln := ⟨l.1.set w v, by simp [l.2]⟩
theorem leaves_ints {k : IntKind} : ∀ (xs ys : List Int), xs.length = ys.length → leavesEq (List.replicate xs.length .i) (xs.map (.int k ·)) (ys.map (.int k ·)) = some (decide (xs = ys))
  | [], [], _ => rfl
  | [], _ :: _, h => by simp at h
  | _ :: _, [], h => by simp at h
  | x :: xs, y :: ys, h => by
    have ih := leaves_ints (k := k) xs ys (by simpa using h)
    simp only [List.length_cons, List.replicate_succ, List.map_cons, leavesEq, leafEq, if_true, ih, Option.some.injEq]
    rw [Bool.eq_iff_iff]; simp
theorem eqL (a b : Ln) (K : Value → Prop) (h : K (.bool (decide (a = b)))) : kBin (.agg [.i, .i, .i, .i, .i, .i, .i, .i]) .eql (.agg (encL a).toArray) (.agg (encL b).toArray) K := by
  have e := leaves_ints (k := .u64) a.1 b.1 (by rw [a.2, b.2])
  rw [a.2] at e
  have e' : leavesEq [.i, .i, .i, .i, .i, .i, .i, .i] (encL a) (encL b) = some (decide (a = b)) := by
    have : (decide (a = b)) = decide (a.1 = b.1) := by rw [Bool.eq_iff_iff]; simp [Subtype.ext_iff]
    rw [this]; exact e
  show (match leavesEq [.i, .i, .i, .i, .i, .i, .i, .i] (encL a) (encL b) with | some r => kCmp .eql r K | none => False)
  rw [e']
  exact h
theorem splice_all {cs vs : List Value} (h : vs.length = cs.length) : splice cs 0 vs = vs := by simp [splice, h]
theorem findIdx_some {α : Type} {p : α → Bool} {xs : List α} {i : Nat} {x : α} (he : xs[i]? = some x) (hp : p x = true) (hb : ∀ y ∈ xs.take i, p y = false) : xs.findIdx? p = some i := by
  have hlt := lt_of_get he
  rw [List.findIdx?_eq_some_iff_getElem]
  refine ⟨hlt, ?_, fun j hj => ?_⟩
  · rw [List.getElem?_eq_getElem hlt] at he; cases he; exact hp
  · have := hb xs[j] (List.mem_of_getElem? (i := j) (by rw [List.getElem?_take, if_pos hj, List.getElem?_eq_getElem]))
    simp [this]
def encB (i : Int) : List Value := [.int .u8 i]
theorem encB_len (i : Int) : (encB i).length = 1 := rfl
theorem encB_cell (i : Int) : ∀ v ∈ encB i, isCell v = true := by simp [encB, isCell]
theorem ldL {l : Nat} {x : Ln} {bk : BK} {K : List Value → Prop} (h : g l = some (.cells (encL x) bk)) (k : K (encL x)) : kLdN g l 0 8 K := by
  refine kLdN_of h (by rw [encL_len]; decide) ?_
  rw [List.drop_zero, List.take_of_length_le (by rw [encL_len]; exact Nat.le_refl _)]; exact k
theorem putL {l : Nat} {x : Ln} {w : Int} {v : Int} {K : Value → Nat → Nat → G → Prop} (hw : 0 ≤ w ∧ w < 8) (h : g l = some (.cells (encL x) .exact))
    (k : ∀ p l' o, upd g l (some (.cells (encL (x.put w.toNat v)) .exact)) l = some (.cells (encL (x.put w.toNat v)) .exact) → K p l' o (upd g l (some (.cells (encL (x.put w.toNat v)) .exact)))) :
    kIndexArr (ptr l 0) (.int .i64 w) 8 1 fun p => kPtr p fun l' o => kSt g l' o (.int .u64 v) (K p l' o) := by
  refine ⟨hw.1, hw.2, ?_⟩
  simp only [kPtr_p]
  refine kSt_of h rfl (by rw [encL_len]; omega) rfl ?_
  have e : (encL x).set (0 + w.toNat * 1) (.int .u64 v) = encL (x.put w.toNat v) := by simp [encL, Ln.put, List.map_set]
  rw [e]
  exact k _ _ _ (upd_same _ _ _)
end Go.Proofs.YtiegodhlhidiiaaGreat.Gen

namespace Go.Proofs.YtiegodhlhidiiaaGreat.Gen
open Go Go.Proofs.YtiegodhlhidiiaaGreat.Abs Go.RowKit
variable {g : G} {n : Nat}
theorem kEx {vs : Array Value} {i : Nat} {v : Value} {K : Value → Prop} (h : vs.toList[i]? = some v) (k : K v) : kExtract (.tuple vs) i K := kGet_of h k
theorem Stop_nil {K : Cont} (hK : ∀ n', K (.tuple #[]) g n') : AC core_Core_Stop_id [.pointer none] g n K := AC_ev (.tuple #[]) 1000 100 (by kernel_rfl) (by kernel_rfl) (by kernel_rfl) hK
theorem Exec_nil {K : Cont} (hK : ∀ n', K (.slice none 0 0) g n') : AC core_Core_Exec_id [.pointer none, .pointer none] g n K := AC_ev (.slice none 0 0) 1000 100 (by kernel_rfl) (by kernel_rfl) (by kernel_rfl) hK
theorem Drain_nil {K : Cont} (hK : ∀ n', K (.slice none 0 0) g n') : AC core_Core_Drain_id [.pointer none, .pointer none] g n K := AC_ev (.slice none 0 0) 1000 100 (by kernel_rfl) (by kernel_rfl) (by kernel_rfl) hK
theorem Place_nil {K : Cont} (hK : ∀ n', K (.int .i64 0) g n') : AC core_Core_Place_id [.pointer none] g n K := AC_ev (.int .i64 0) 1000 100 (by kernel_rfl) (by kernel_rfl) (by kernel_rfl) hK
theorem Waits_nil {K : Cont} (hK : ∀ n', K (.int .i64 0) g n') : AC core_Core_Waits_id [.pointer none] g n K := AC_ev (.int .i64 0) 1000 100 (by kernel_rfl) (by kernel_rfl) (by kernel_rfl) hK
theorem Buffer_nil {K : Cont} (hK : ∀ n', K (.slice none 0 0) g n') : AC core_Core_Buffer_id [.pointer none] g n K := AC_ev (.slice none 0 0) 1000 100 (by kernel_rfl) (by kernel_rfl) (by kernel_rfl) hK
theorem Runs_nil {K : Cont} (hK : ∀ n', K (.bool false) g n') : AC core_Core_Runs_id [.pointer none] g n K := AC_ev (.bool false) 1000 100 (by kernel_rfl) (by kernel_rfl) (by kernel_rfl) hK
def z8 : List Value := [.int .u64 0, .int .u64 0, .int .u64 0, .int .u64 0, .int .u64 0, .int .u64 0, .int .u64 0, .int .u64 0]
theorem Regs_nil {K : Cont} (hK : ∀ n', K (.agg z8.toArray) g n') : AC core_Core_Regs_id [.pointer none] g n K := AC_ev (.agg z8.toArray) 1000 100 (by kernel_rfl) (by kernel_rfl) (by kernel_rfl) hK
/-- a message -/
structure Ms12 where
  a : Int
  b : Int
  c : Bool
  d : Bool
  x0 : Int
  x1 : Int
  x2 : Int
  x3 : Int
  x4 : Int
  x5 : Int
  x6 : Int
  x7 : Int
def encMs (m : Ms12) : List Value := [.int .i64 m.a, .int .i64 m.b, .bool m.c, .bool m.d, .int .u64 m.x0, .int .u64 m.x1, .int .u64 m.x2, .int .u64 m.x3, .int .u64 m.x4, .int .u64 m.x5, .int .u64 m.x6, .int .u64 m.x7]
theorem Hear_nil (m : Ms12) {K : Cont} (hK : ∀ n', K (.slice none 0 0) g n') : AC core_Core_Hear_id [.pointer none, .agg (encMs m).toArray] g n K := AC_ev (.slice none 0 0) 1000 100 (by kernel_rfl) (by kernel_rfl) (by kernel_rfl) hK
theorem sbufNew_spec {K : Cont} (hK : ∀ l g' n', Sub g g' → K (.tuple #[ptr l 0, .int .i64 0]) g' n') : AC sbuf_New_id [.int .i64 1] g n K := by
  refine ACalls.fold X0_mono ?_
  rw [← sbuf_New_eq]
  simp only [sbuf_New]
  rw [kBin_lss]
  refine kSplit_f rfl ?_
  rw [kBin_gtr]
  refine kSplit_f rfl ?_
  refine ⟨rfl, by decide, ?_⟩
  simp only [kFill_nil, kAgg_a]
  intro hn
  exact aRet_of (Sub.refl _) (hK _ _ _ ((Sub.refl g).new hn _))
theorem reps_len (k : Nat) (z : List Value) : (reps k z).length = k * z.length := by
  unfold reps
  induction k with
  | zero => simp
  | succ k ih => simp [List.replicate_succ, Nat.add_mul] at ih ⊢; omega
set_option maxRecDepth 100000 in
theorem coreNew_spec {v : Value} {prog : List Int} (hv : Sl encW 1 g v prog) (hlen : prog.length ≤ 1000) {K : Cont}
    (hK : ∀ l cs g' n', Sub g g' → g' l = some (.cells cs .exact) → cs[13]? = some (.bool true) → K (.tuple #[ptr l 0, .int .i64 0]) g' n') : AC core_New_id [.int .i64 0, .int .i64 1, v] g n K := by
  refine ACalls.fold X0_mono ?_
  rw [← core_New_eq]
  simp only [core_New]
  rw [kBin_lss]
  refine kSplit_f rfl ?_
  rw [kBin_geq]
  refine kSplit_f rfl ?_
  refine sbufNew_spec (fun lb g1 n1 hs1 => ?_)
  refine kEx rfl (kEx rfl ?_)
  rw [kBin_neq]
  refine kSplit_f rfl ?_
  have hv1 := hv.mono hs1
  refine hv1.len ?_
  rw [kBin_gtr]
  refine kSplit_f (decide_eq_false (by omega)) ?_
  refine hv1.len ?_
  refine ⟨by omega, by omega, by omega, by omega, ?_⟩
  intro hn1
  simp only [Int.toNat_natCast]
  generalize hps : reps prog.length _ = ps
  have hpl : ps.length = prog.length * 10 := by rw [← hps, reps_len]; rfl
  have hs2 := (Sub.refl g1).new hn1 (some (.cells ps .exact))
  refine ⟨rfl, by simp, rfl, by simp, rfl, by simp, rfl, by simp, ?_⟩
  simp only [kFill_nil, kAgg_a]
  intro hn2
  have hne : n1 ≠ n1 + 1 := by omega
  have hs3 := hs2.new hn2 (some (.cells [.int .i64 0, .int .u64 0, .int .u64 0, .int .u64 0, .int .u64 0, .int .u64 0, .int .u64 0, .int .u64 0, .int .u64 0, .int .i64 0, .slice (some ⟨n1, 0, none⟩) prog.length prog.length, ptr lb 0, .int .i64 0, .bool true] .exact))
  have hg2 : g1 (n1 + 1) = none := hs2.none hn2
  refine hv1.mono hs3 |>.len ?_
  refine lfp_ind (m := prog.length) (Inv := fun m t g9 n9 => ∃ (j : Nat) (qs : List Value), m + j = prog.length ∧ Sub g1 g9 ∧ g9 (n1 + 1) = some (.cells [.int .i64 0, .int .u64 0, .int .u64 0, .int .u64 0, .int .u64 0, .int .u64 0, .int .u64 0, .int .u64 0, .int .u64 0, .int .i64 0, .slice (some ⟨n1, 0, none⟩) prog.length prog.length, ptr lb 0, .int .i64 0, .bool true] .exact) ∧
    g9 n1 = some (.cells qs .exact) ∧ qs.length = prog.length * 10 ∧ t 37 = v ∧ t 10 = ptr (n1 + 1) 0 ∧ t 38 = .int .i64 (prog.length : Nat) ∧ t 39 = .int .i64 (j : Nat)) ?_
    ⟨0, ps, by omega, hs3, upd_same _ _ _, by rw [upd_ne _ _ hne, upd_same], hpl, rfl, rfl, rfl, rfl⟩
  rintro I m t g9 n9 ih ⟨j, qs, hm, hs9, hc9, hp9, hql, t37, t10, t38, t39⟩
  simp only [core_New_l1, t37, t10, t38, t39, kBin_lss]
  by_cases hj : j < prog.length
  · refine kSplit_t (decide_eq_true (by omega)) ?_
    have hget : prog[j]? = some prog[j] := List.getElem?_eq_getElem hj
    refine (hv1.mono hs9).idx encW_len hget (fun l o ha => ?_)
    rw [kPtr_p]
    refine ha.ld (i := 0) rfl ?_
    rw [kNil_p, kPtr_p]
    refine kLd_of hc9 rfl ?_
    refine kIndexAddr_s (by omega) (by omega) ?_
    rw [kPtr_p]
    refine kSt_of hp9 rfl (by omega) rfl ?_
    rw [kBin_add, wrap64_of (by omega) (by omega), show ((j : Nat) : Int) + 1 = ((j + 1 : Nat) : Int) by omega]
    refine ih (m - 1) _ _ _ (by omega) ⟨j + 1, _, by omega, hs9.upd_fresh _ hn1, by rw [upd_ne _ _ hne.symm]; exact hc9, upd_same _ _ _, by rw [List.length_set]; exact hql, t37, t10, t38, rfl⟩
  · refine kSplit_f (decide_eq_false (by omega)) ?_
    simp only [core_New_j2]
    show aRet K (.tuple #[t 10, .int .i64 0]) g9 n9
    rw [t10]
    exact aRet_of (Sub.refl _) (hK _ _ _ _ (hs1.trans hs9) hc9 rfl)
theorem Exec_sys {l : Nat} {cs : List Value} (_ : g l = some (.cells cs .exact)) {K : Cont} (hK : ∀ n', K (.slice none 0 0) g n') : AC core_Core_Exec_id [ptr l 0, .pointer none] g n K := by
  refine ACalls.fold X0_mono ?_
  rw [← core_Core_Exec_eq]
  simp only [core_Core_Exec]
  rw [kBin_p_eql]
  refine kSplit_f rfl ?_
  rw [kBin_pnil_eql]
  exact kSplit_t rfl (aRet_of (Sub.refl _) (hK _))
theorem Drain_sys {l : Nat} {cs : List Value} (_ : g l = some (.cells cs .exact)) {K : Cont} (hK : ∀ n', K (.slice none 0 0) g n') : AC core_Core_Drain_id [ptr l 0, .pointer none] g n K := by
  refine ACalls.fold X0_mono ?_
  rw [← core_Core_Drain_eq]
  simp only [core_Core_Drain]
  rw [kBin_p_eql]
  refine kSplit_f rfl ?_
  rw [kBin_pnil_eql]
  exact kSplit_t rfl (aRet_of (Sub.refl _) (hK _))
theorem Runs_sys {l : Nat} {cs : List Value} (h : g l = some (.cells cs .exact)) (h13 : cs[13]? = some (.bool true)) {K : Cont} (hK : ∀ n', K (.bool true) g n') : AC core_Core_Runs_id [ptr l 0] g n K := by
  refine ACalls.fold X0_mono ?_
  rw [← core_Core_Runs_eq]
  simp only [core_Core_Runs]
  rw [kBin_p_neq]
  refine kSplit_t rfl ?_
  rw [kNil_p, kPtr_p]
  exact kLd_of h (by simpa using h13) (aRet_of (Sub.refl _) (hK _))
set_option maxRecDepth 100000 in
theorem CoreNone_spec {v : Value} (m : Ms12) {prog : List Int} (hv : Sl encW 1 g v prog) {K : Cont} (hK : ∀ n' g', K (.bool true) g' n') : AC bellowslaw13_CoreNone_id [.agg (encMs m).toArray, v] g n K := by
  refine ACalls.fold X0_mono ?_
  rw [← bellowslaw13_CoreNone_eq]
  simp only [bellowslaw13_CoreNone, kAgg_a, kFill_nil]
  intro hn
  have hs1 := (Sub.refl g).new hn (some (.cells (encMs m) .exact))
  have hm1 : upd g n (some (.cells (encMs m) .exact)) n = some (.cells (encMs m) .exact) := upd_same _ _ _
  generalize upd g n (some (.cells (encMs m) .exact)) = g1 at hs1 hm1
  have hv1 := hv.mono hs1
  refine hv1.len ?_
  rw [kBin_gtr]
  by_cases hl : prog.length > 1000
  · refine kSplit_t (decide_eq_true (by omega)) ?_
    exact wakes_tell (aRet_of (Sub.refl _) (hK _ _))
  refine kSplit_f (decide_eq_false (by omega)) ?_
  refine Stop_nil (fun n2 => ?_)
  refine coreNew_spec hv1 (by omega) (fun lc cs g2 n3 hs2 hc h13 => ?_)
  refine kEx rfl (kEx rfl ?_)
  rw [kBin_neq]
  refine kSplit_f rfl ?_
  rw [kBin_p_eql]
  refine kSplit_f rfl ?_
  have hm2 := hs2.live hm1
  refine Exec_nil (fun n4 => ?_)
  simp only [kLen_s]
  rw [kBin_eql]
  refine kSplit_t rfl ?_
  refine Drain_nil (fun n5 => ?_)
  simp only [kLen_s]
  rw [kBin_eql]
  refine kSplit_t rfl ?_
  refine kLdN_of hm2 (by show 12 ≤ 12; decide) ?_
  refine Hear_nil m (fun n6 => ?_)
  simp only [kLen_s]
  rw [kBin_eql]
  refine kSplit_t rfl ?_
  refine Regs_nil (fun n7 => ?_)
  have heq : ∀ {J : Value → Prop}, J (.bool true) → kBin (.agg [.i, .i, .i, .i, .i, .i, .i, .i]) .eql (.agg z8.toArray) (.agg z8.toArray) J := fun h => h
  refine heq ?_
  refine kSplit_t rfl ?_
  refine Place_nil (fun n8 => ?_)
  rw [kBin_eql]
  refine kSplit_t rfl ?_
  refine Buffer_nil (fun n9 => ?_)
  simp only [kLen_s]
  rw [kBin_eql]
  refine kSplit_t rfl ?_
  refine Waits_nil (fun n10 => ?_)
  rw [kBin_eql]
  refine kSplit_t rfl ?_
  refine Runs_nil (fun n11 => ?_)
  rw [kUn_not]
  refine kSplit_t rfl ?_
  refine Exec_sys hc (fun n12 => ?_)
  simp only [kLen_s]
  rw [kBin_eql]
  refine kSplit_t rfl ?_
  refine Drain_sys hc (fun n13 => ?_)
  simp only [kLen_s]
  rw [kBin_eql]
  refine kSplit_t rfl ?_
  refine Runs_sys hc h13 (fun n14 => ?_)
  refine kSplit_t rfl ?_
  exact wakes_tell (aRet_of (Sub.refl _) (hK _ _))
end Go.Proofs.YtiegodhlhidiiaaGreat.Gen

namespace Go.Proofs.YtiegodhlhidiiaaGreat.Gen
open Go Go.Proofs.YtiegodhlhidiiaaGreat.Abs Go.RowKit
variable {g : G} {n : Nat}
theorem decW (c : List Value) (h : RepL g [.i .u64] c) : ∃ x, c = encW x := by
  obtain ⟨a, r, e, _, h2⟩ := rep_i h
  have e2 := rep_nil h2; subst e2; exact ⟨a, e⟩
theorem CoreNone_row {args : List Value} (hr : RepAs g [(true, [.i .i64, .i .i64, .b, .b, .i .u64, .i .u64, .i .u64, .i .u64, .i .u64, .i .u64, .i .u64, .i .u64]), (false, [.s [.i .u64]])] args) {K : Cont} (hK : ∀ g' n', K (.bool true) g' n') : AC bellowslaw13_CoreNone_id args g n K := by
  cases hr with
  | cons h1 hr =>
    cases hr with
    | cons h2 hr =>
      cases hr
      obtain ⟨cs, e, h1⟩ := h1
      obtain ⟨a1, r1, e1, _, h⟩ := rep_i h1
      obtain ⟨a2, r2, e2, _, h⟩ := rep_i h
      obtain ⟨a3, r3, e3, h⟩ := rep_b h
      obtain ⟨a4, r4, e4, h⟩ := rep_b h
      obtain ⟨b0, q0, f0, _, h⟩ := rep_i h
      obtain ⟨b1, q1, f1, _, h⟩ := rep_i h
      obtain ⟨b2, q2, f2, _, h⟩ := rep_i h
      obtain ⟨b3, q3, f3, _, h⟩ := rep_i h
      obtain ⟨b4, q4, f4, _, h⟩ := rep_i h
      obtain ⟨b5, q5, f5, _, h⟩ := rep_i h
      obtain ⟨b6, q6, f6, _, h⟩ := rep_i h
      obtain ⟨b7, q7, f7, _, h⟩ := rep_i h
      have f8 := rep_nil h
      subst f8 f7 f6 f5 f4 f3 f2 f1 f0 e4 e3 e2 e1 e
      obtain ⟨v, r, e, h2, hn⟩ := rep_s h2
      cases e
      obtain ⟨xs, h2, _⟩ := rep_sl decW h2
      exact CoreNone_spec ⟨a1, a2, a3, a4, b0, b1, b2, b3, b4, b5, b6, b7⟩ h2 (fun n' g' => hK g' n')
end Go.Proofs.YtiegodhlhidiiaaGreat.Gen
