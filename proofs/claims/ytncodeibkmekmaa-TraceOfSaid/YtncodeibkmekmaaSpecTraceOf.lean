import Derived.Test.YtncodeibkmekmaaGenTraceOf
/- What the functions come to. -/
set_option linter.all false
set_option linter.deprecated false
namespace Go.Proofs.Ytncodeibkmekmaa.Gen
open Go Go.Proofs.Ytncodeibkmekmaa.Abs Go.RowKit
variable {g : G} {n : Nat}
abbrev AC : CT := ACalls Try.prog X0

/-- events -/
structure Ev where
  kind : Int
  core : Int
  line : Int
  word : Int
  val : Int
  deriving DecidableEq
def encE (e : Ev) : List Value := [.int .i64 e.kind, .int .i64 e.core, .int .i64 e.line, .int .i64 e.word, .int .u64 e.val]
theorem encE_len (e : Ev) : (encE e).length = 5 := rfl
theorem encE_cell (e : Ev) : ∀ v ∈ encE e, isCell v = true := by simp [encE, isCell]

theorem val_spec (e : Ev) {K : Cont} (hK : ∀ n', K (.int .u64 e.val) g n') : AC trace_val_id [.agg (encE e).toArray] g n K := by
  refine ACalls.fold X0_mono ?_
  rw [← trace_val_eq]
  simp only [trace_val, kAgg_a]
  intro hn
  refine kLd_of (upd_same _ _ _) rfl ?_
  exact aRet_of ((Sub.refl g).new hn _) (hK _)

theorem itself_spec (e : Ev) {K : Cont} (hK : ∀ n', K (.agg (encE e).toArray) g n') : AC trace_itself_id [.agg (encE e).toArray] g n K := by
  refine ACalls.fold X0_mono ?_
  rw [← trace_itself_eq]
  simp only [trace_itself, kAgg_a]
  intro hn hn'
  have hs : Sub g (upd g n (some (.cells (encE e) .exact))) := (Sub.refl g).new hn _
  have e1 := upd_live (upd_same g n (some (.cells (encE e) .exact))) hn' (some (.cells [(.int .i64 0), (.int .i64 0), (.int .i64 0), (.int .i64 0), (.int .u64 0)] .exact))
  refine kLdN_of e1 (by simp [encE]) ?_
  refine ⟨rfl, kStN_of (upd_same _ _ _) rfl (by simp [encE]) (by simp [encE, isCell]) ?_⟩
  refine kLdN_of (upd_same _ _ _) (by simp [encE, splice]) ?_
  refine aRet_of (((hs.new hn' _).upd_fresh _ (hs.none hn'))) (hK _)


theorem chosenE_spec {v such conv : Value} (p : Ev → Bool) (f : Ev → Ev) {xs : List Ev} (hv : Sl encE 5 g v xs)
    (hsuch : ∀ (g' : G) (n' : Nat) (e : Ev) (K : Cont), Sub g g' → (∀ n, K (.bool (p e)) g' n) → kCall AC such [.agg (encE e).toArray] g' n' K)
    (has : ∀ (g' : G) (n' : Nat) (e : Ev) (K : Cont), Sub g g' → (∀ n, K ((fun e : Ev => Value.agg (encE e).toArray) (f e)) g' n) → kCall AC conv [.agg (encE e).toArray] g' n' K)
    (hlen : xs.length < 1000000) {K : Cont} (hK : ∀ v' g' n', Sub g g' → OwnS encE 5 g g' v' ((xs.filter p).map f) → K v' g' n') : AC trace_chosen_api_Event_api_Event_id [v, such, conv] g n K := by
  refine ACalls.fold X0_mono ?_
  rw [← trace_chosen_api_Event_api_Event_eq]
  simp only [trace_chosen_api_Event_api_Event]
  refine hv.len ?_
  refine lfp_ind (fun m t g' n' => ∃ i, m = xs.length - i ∧ i ≤ xs.length ∧ t 1 = such ∧ t 2 = conv ∧ t 10 = v ∧ t 11 = .int .i64 xs.length ∧ t 12 = .int .i64 i ∧ Sub g g' ∧ OwnS encE 5 g g' (t 7) (((xs.take i).filter p).map f)) ?_
    (m := xs.length) ⟨0, by simp, by simp, rfl, rfl, rfl, rfl, rfl, Sub.refl g, OwnS.nil⟩
  rintro I m t g1 n1 hI ⟨i, hm, hi, h1, h2, h10, h11, h12, hs, ho⟩
  simp only [trace_chosen_api_Event_api_Event_l1, h1, h2, h10, h11, h12, kBin_lss, kSplit_b]
  refine ⟨fun hlt => ?_, fun hge => ?_⟩
  · have hlt : i < xs.length := by simpa using hlt
    have he : xs[i]? = some xs[i] := List.getElem?_eq_getElem hlt
    generalize xs[i] = e at he
    have htk : xs.take (i + 1) = xs.take i ++ [e] := by rw [List.take_add_one, he]; rfl
    refine (hv.mono hs).idx encE_len he (fun l o ha => ?_)
    simp only [kPtr_p]
    refine ha.ldN rfl ?_
    intro hn1
    simp only [kAgg_a]
    refine ⟨rfl, kStN_of (upd_same _ _ _) rfl (by simp [encE]) (encE_cell e) ?_⟩
    have hs3 : Sub g1 _ := (((Sub.refl g1).new hn1 (some (.cells [(.int .i64 0), (.int .i64 0), (.int .i64 0), (.int .i64 0), (.int .u64 0)] .exact))).upd_fresh (some (.cells (encE e) .exact)) hn1)
    have hl3 : (upd (upd g1 n1 (some (.cells [(.int .i64 0), (.int .i64 0), (.int .i64 0), (.int .i64 0), (.int .u64 0)] .exact))) n1 (some (.cells (encE e) .exact))) n1 = some (.cells (encE e) .exact) := upd_same _ _ _
    refine kLdN_of (upd_same _ _ _) (by simp [encE, splice]) ?_
    refine hsuch _ _ e _ (hs.trans hs3) (fun n2 => ?_)
    simp only [kSplit_b]
    have hw : IntKind.i64.wrap ((i : Int) + 1) = ((i + 1 : Nat) : Int) := wrapNat (by omega)
    refine ⟨fun hp => ?_, fun hp => ?_⟩
    · refine kLdN_of hl3 (by simp [encE]) ?_
      refine has _ _ e _ (hs.trans hs3) (fun n3 => ?_)
      refine ⟨rfl, by decide, ?_⟩
      intro hn4
      have hs5 := hs3.new hn4 (some (.cells (encE (f e)) .exact))
      have hcnt : ((xs.take i).filter p).length ≤ i := Nat.le_trans (List.length_filter_le _ _) (by rw [List.length_take]; omega)
      refine OwnS.append (ho.mono hs5) (hs.trans hs5) (Sl.one (x := f e) (encE_len _) (upd_same _ _ _)) encE_cell (by decide) (by simp; omega) (by simp; omega) (fun v' g' n' hs' ho' _ _ => ?_)
      simp only [kBin_add, hw]
      refine hI (xs.length - (i + 1)) _ _ _ (by omega) ⟨i + 1, rfl, by omega, h1, h2, h10, h11, rfl, hs', ?_⟩
      have e2 : ((xs.take (i + 1)).filter p).map f = ((xs.take i).filter p).map f ++ [f e] := by simp [htk, hp]
      rw [e2]; exact ho'
    · simp only [kBin_add, hw]
      refine hI (xs.length - (i + 1)) _ _ _ (by omega) ⟨i + 1, rfl, by omega, h1, h2, h10, h11, rfl, hs.trans hs3, ?_⟩
      have e2 : ((xs.take (i + 1)).filter p).map f = ((xs.take i).filter p).map f := by simp [htk, hp]
      rw [e2]; exact ho.mono hs3
  · have hge : i = xs.length := by have : ¬ i < xs.length := by simpa using hge
                                   omega
    subst hge
    rw [List.take_length] at ho
    exact aRet_of (Sub.refl _) (hK _ _ _ hs ho)

theorem chosenW_spec {v such conv : Value} (p : Ev → Bool) (f : Ev → Int) {xs : List Ev} (hv : Sl encE 5 g v xs)
    (hsuch : ∀ (g' : G) (n' : Nat) (e : Ev) (K : Cont), Sub g g' → (∀ n, K (.bool (p e)) g' n) → kCall AC such [.agg (encE e).toArray] g' n' K)
    (has : ∀ (g' : G) (n' : Nat) (e : Ev) (K : Cont), Sub g g' → (∀ n, K ((fun e : Int => Value.int .u64 e) (f e)) g' n) → kCall AC conv [.agg (encE e).toArray] g' n' K)
    (hlen : xs.length < 1000000) {K : Cont} (hK : ∀ v' g' n', Sub g g' → OwnS encW 1 g g' v' ((xs.filter p).map f) → K v' g' n') : AC trace_chosen_api_Event_uint64_id [v, such, conv] g n K := by
  refine ACalls.fold X0_mono ?_
  rw [← trace_chosen_api_Event_uint64_eq]
  simp only [trace_chosen_api_Event_uint64]
  refine hv.len ?_
  refine lfp_ind (fun m t g' n' => ∃ i, m = xs.length - i ∧ i ≤ xs.length ∧ t 1 = such ∧ t 2 = conv ∧ t 10 = v ∧ t 11 = .int .i64 xs.length ∧ t 12 = .int .i64 i ∧ Sub g g' ∧ OwnS encW 1 g g' (t 7) (((xs.take i).filter p).map f)) ?_
    (m := xs.length) ⟨0, by simp, by simp, rfl, rfl, rfl, rfl, rfl, Sub.refl g, OwnS.nil⟩
  rintro I m t g1 n1 hI ⟨i, hm, hi, h1, h2, h10, h11, h12, hs, ho⟩
  simp only [trace_chosen_api_Event_uint64_l1, h1, h2, h10, h11, h12, kBin_lss, kSplit_b]
  refine ⟨fun hlt => ?_, fun hge => ?_⟩
  · have hlt : i < xs.length := by simpa using hlt
    have he : xs[i]? = some xs[i] := List.getElem?_eq_getElem hlt
    generalize xs[i] = e at he
    have htk : xs.take (i + 1) = xs.take i ++ [e] := by rw [List.take_add_one, he]; rfl
    refine (hv.mono hs).idx encE_len he (fun l o ha => ?_)
    simp only [kPtr_p]
    refine ha.ldN rfl ?_
    intro hn1
    simp only [kAgg_a]
    refine ⟨rfl, kStN_of (upd_same _ _ _) rfl (by simp [encE]) (encE_cell e) ?_⟩
    have hs3 : Sub g1 _ := (((Sub.refl g1).new hn1 (some (.cells [(.int .i64 0), (.int .i64 0), (.int .i64 0), (.int .i64 0), (.int .u64 0)] .exact))).upd_fresh (some (.cells (encE e) .exact)) hn1)
    have hl3 : (upd (upd g1 n1 (some (.cells [(.int .i64 0), (.int .i64 0), (.int .i64 0), (.int .i64 0), (.int .u64 0)] .exact))) n1 (some (.cells (encE e) .exact))) n1 = some (.cells (encE e) .exact) := upd_same _ _ _
    refine kLdN_of (upd_same _ _ _) (by simp [encE, splice]) ?_
    refine hsuch _ _ e _ (hs.trans hs3) (fun n2 => ?_)
    simp only [kSplit_b]
    have hw : IntKind.i64.wrap ((i : Int) + 1) = ((i + 1 : Nat) : Int) := wrapNat (by omega)
    refine ⟨fun hp => ?_, fun hp => ?_⟩
    · refine kLdN_of hl3 (by simp [encE]) ?_
      refine has _ _ e _ (hs.trans hs3) (fun n3 => ?_)
      refine ⟨rfl, by decide, ?_⟩
      intro hn4
      have hs5 := hs3.new hn4 (some (.cells (encW (f e)) .exact))
      have hcnt : ((xs.take i).filter p).length ≤ i := Nat.le_trans (List.length_filter_le _ _) (by rw [List.length_take]; omega)
      refine OwnS.append (ho.mono hs5) (hs.trans hs5) (Sl.one (x := f e) (encW_len _) (upd_same _ _ _)) encW_cell (by decide) (by simp; omega) (by simp; omega) (fun v' g' n' hs' ho' _ _ => ?_)
      simp only [kBin_add, hw]
      refine hI (xs.length - (i + 1)) _ _ _ (by omega) ⟨i + 1, rfl, by omega, h1, h2, h10, h11, rfl, hs', ?_⟩
      have e2 : ((xs.take (i + 1)).filter p).map f = ((xs.take i).filter p).map f ++ [f e] := by simp [htk, hp]
      rw [e2]; exact ho'
    · simp only [kBin_add, hw]
      refine hI (xs.length - (i + 1)) _ _ _ (by omega) ⟨i + 1, rfl, by omega, h1, h2, h10, h11, rfl, hs.trans hs3, ?_⟩
      have e2 : ((xs.take (i + 1)).filter p).map f = ((xs.take i).filter p).map f := by simp [htk, hp]
      rw [e2]; exact ho.mono hs3
  · have hge : i = xs.length := by have : ¬ i < xs.length := by simpa using hge
                                   omega
    subst hge
    rw [List.take_length] at ho
    exact aRet_of (Sub.refl _) (hK _ _ _ hs ho)
end Go.Proofs.Ytncodeibkmekmaa.Gen

namespace Go.Proofs.Ytncodeibkmekmaa.Gen
open Go Go.Proofs.Ytncodeibkmekmaa.Abs Go.RowKit
variable {g : G} {n : Nat}

theorem of1_spec {e : Ev} {lk lc : Nat} {kind core : Int} {bk bk' : BK} (hk : g lk = some (.cells [.int .i64 kind] bk)) (hc : g lc = some (.cells [.int .i64 core] bk')) {K : Cont}
    (hK : ∀ n', K (.bool ((decide (kind = 0) || decide (e.kind = kind)) && (decide (core = -1) || decide (e.core = core)))) g n') : AC trace_Of_1_id [.agg (encE e).toArray, ptr lk 0, ptr lc 0] g n K := by
  refine ACalls.fold X0_mono ?_
  rw [← trace_Of_1_eq]
  simp only [trace_Of_1, kAgg_a, kPtr_p]
  intro hn
  have hs : Sub g _ := (Sub.refl g).new hn (some (.cells (encE e) .exact))
  have h1 := upd_same g n (some (.cells (encE e) .exact))
  have fin : ∀ b n', b = ((decide (kind = 0) || decide (e.kind = kind)) && (decide (core = -1) || decide (e.core = core))) → aRet K (.bool b) (upd g n (some (.cells (encE e) .exact))) n' := fun b n' hb => aRet_of hs (hb ▸ hK _)
  refine kLd_of (hs.live hk) rfl ?_
  simp only [kBin_eql, kSplit_b, decide_eq_true_eq, decide_eq_false_iff_not]
  have tail : ∀ b, b = (decide (kind = 0) || decide (e.kind = kind)) → b = true → kLd (upd g n (some (.cells (encE e) .exact))) lc 0 fun v14 => kBin .int .eql v14 (.int .i64 (-1)) fun v15 => kSplit v15 (aRet K (.bool true) (upd g n (some (.cells (encE e) .exact))) (n + 1))
      (kLd (upd g n (some (.cells (encE e) .exact))) n (0 + 1) fun v18 => kLd (upd g n (some (.cells (encE e) .exact))) lc 0 fun v19 => kBin .int .eql v18 v19 fun v20 => aRet K v20 (upd g n (some (.cells (encE e) .exact))) (n + 1)) := by
    intro b hb hbt
    refine kLd_of (hs.live hc) rfl ?_
    simp only [kBin_eql, kSplit_b, decide_eq_true_eq, decide_eq_false_iff_not]
    refine ⟨fun h => fin _ _ (by rw [← hb, hbt]; simp [h]), fun h => ?_⟩
    refine kLd_of h1 rfl ?_
    refine kLd_of (hs.live hc) rfl ?_
    simp only [kBin_eql]
    exact fin _ _ (by rw [← hb, hbt]; simp [h])
  refine ⟨fun h => tail _ rfl (by simp [h]), fun h => ?_⟩
  refine kLd_of h1 rfl ?_
  refine kLd_of (hs.live hk) rfl ?_
  simp only [kBin_eql, kSplit_b, decide_eq_true_eq, decide_eq_false_iff_not]
  refine ⟨fun h => tail _ rfl (by simp [h]), fun h' => fin _ _ (by simp [h, h'])⟩

theorem tells1_spec {e : Ev} {lc : Nat} {core : Int} {bk' : BK} (hc : g lc = some (.cells [.int .i64 core] bk')) {K : Cont}
    (hK : ∀ n', K (.bool (decide (e.kind = 8) && decide (e.core = core))) g n') : AC trace_Tells_1_id [.agg (encE e).toArray, ptr lc 0] g n K := by
  refine ACalls.fold X0_mono ?_
  rw [← trace_Tells_1_eq]
  simp only [trace_Tells_1, kAgg_a, kPtr_p]
  intro hn
  have hs : Sub g _ := (Sub.refl g).new hn (some (.cells (encE e) .exact))
  have h1 := upd_same g n (some (.cells (encE e) .exact))
  refine kLd_of h1 rfl ?_
  simp only [kBin_eql, kSplit_b, decide_eq_true_eq, decide_eq_false_iff_not]
  refine ⟨fun h => ?_, fun h => aRet_of hs (by simpa [h] using hK _)⟩
  refine kLd_of h1 rfl ?_
  refine kLd_of (hs.live hc) rfl ?_
  simp only [kBin_eql]
  exact aRet_of hs (by simpa [h] using hK _)

theorem stores1_spec {e : Ev} {ll lw : Nat} {line word : Int} {bk bk' : BK} (hl : g ll = some (.cells [.int .i64 line] bk)) (hw : g lw = some (.cells [.int .i64 word] bk')) {K : Cont}
    (hK : ∀ n', K (.bool (decide (e.kind = 3) && (decide (e.line = line) && decide (e.word = word)))) g n') : AC trace_Stores_1_id [.agg (encE e).toArray, ptr ll 0, ptr lw 0] g n K := by
  refine ACalls.fold X0_mono ?_
  rw [← trace_Stores_1_eq]
  simp only [trace_Stores_1, kAgg_a, kPtr_p]
  intro hn
  have hs : Sub g _ := (Sub.refl g).new hn (some (.cells (encE e) .exact))
  have h1 := upd_same g n (some (.cells (encE e) .exact))
  refine kLd_of h1 rfl ?_
  simp only [kBin_eql, kSplit_b, decide_eq_true_eq, decide_eq_false_iff_not]
  refine ⟨fun h => ?_, fun h => aRet_of hs (by simpa [h] using hK _)⟩
  refine kLd_of h1 rfl ?_
  refine kLd_of (hs.live hl) rfl ?_
  simp only [kBin_eql, kSplit_b, decide_eq_true_eq, decide_eq_false_iff_not]
  refine ⟨fun h2 => ?_, fun h2 => aRet_of hs (by simpa [h, h2] using hK _)⟩
  refine kLd_of h1 rfl ?_
  refine kLd_of (hs.live hw) rfl ?_
  simp only [kBin_eql]
  exact aRet_of hs (by simpa [h, h2] using hK _)

def ofP (kind core : Int) (e : Ev) : Bool := (decide (kind = 0) || decide (e.kind = kind)) && (decide (core = -1) || decide (e.core = core))
theorem Of_spec {v : Value} {xs : List Ev} {kind core : Int} (hv : Sl encE 5 g v xs) (hlen : xs.length < 1000000) {K : Cont}
    (hK : ∀ v' g' n', Sub g g' → OwnS encE 5 g g' v' (xs.filter (ofP kind core)) → K v' g' n') : AC trace_Of_id [v, .int .i64 kind, .int .i64 core] g n K := by
  refine ACalls.fold X0_mono ?_
  rw [← trace_Of_eq]
  simp only [trace_Of]
  refine ⟨rfl, fun hn => ⟨rfl, fun hn2 => ?_⟩⟩
  have hs1 : Sub g _ := (Sub.refl g).new hn (some (.cells [.int .i64 kind] .exact))
  have hs2 := hs1.new hn2 (some (.cells [.int .i64 core] .exact))
  have hk := upd_live (upd_same g n (some (.cells [.int .i64 kind] .exact))) hn2 (some (.cells [.int .i64 core] .exact))
  have hc := upd_same (upd g n (some (.cells [.int .i64 kind] .exact))) (n + 1) (some (.cells [.int .i64 core] .exact))
  refine chosenE_spec (ofP kind core) (fun e => e) (hv.mono hs2) ?_ ?_ hlen ?_
  · intro g' n' e K hs hK
    exact of1_spec (hs.live hk) (hs.live hc) hK
  · intro g' n' e K hs hK
    exact itself_spec e hK
  · intro v' g' n' hs ho
    refine aRet_of (Sub.refl _) (hK _ _ _ (hs2.trans hs) ?_)
    rw [List.map_id'] at ho
    exact ho.base hs2

def tellP (core : Int) (e : Ev) : Bool := decide (e.kind = 8) && decide (e.core = core)
theorem Tells_spec {v : Value} {xs : List Ev} {core : Int} (hv : Sl encE 5 g v xs) (hlen : xs.length < 1000000) {K : Cont}
    (hK : ∀ v' g' n', Sub g g' → OwnS encW 1 g g' v' ((xs.filter (tellP core)).map Ev.val) → K v' g' n') : AC trace_Tells_id [v, .int .i64 core] g n K := by
  refine ACalls.fold X0_mono ?_
  rw [← trace_Tells_eq]
  simp only [trace_Tells]
  refine ⟨rfl, fun hn => ?_⟩
  have hs1 : Sub g _ := (Sub.refl g).new hn (some (.cells [.int .i64 core] .exact))
  have hc := upd_same g n (some (.cells [.int .i64 core] .exact))
  refine chosenW_spec (tellP core) Ev.val (hv.mono hs1) ?_ ?_ hlen ?_
  · intro g' n' e K hs hK
    exact tells1_spec (hs.live hc) hK
  · intro g' n' e K hs hK
    exact val_spec e hK
  · intro v' g' n' hs ho
    exact aRet_of (Sub.refl _) (hK _ _ _ (hs1.trans hs) (ho.base hs1))

def storeP (line word : Int) (e : Ev) : Bool := decide (e.kind = 3) && (decide (e.line = line) && decide (e.word = word))
theorem Stores_spec {v : Value} {xs : List Ev} {line word : Int} (hv : Sl encE 5 g v xs) (hlen : xs.length < 1000000) {K : Cont}
    (hK : ∀ v' g' n', Sub g g' → OwnS encW 1 g g' v' ((xs.filter (storeP line word)).map Ev.val) → K v' g' n') : AC trace_Stores_id [v, .int .i64 line, .int .i64 word] g n K := by
  refine ACalls.fold X0_mono ?_
  rw [← trace_Stores_eq]
  simp only [trace_Stores]
  refine ⟨rfl, fun hn => ⟨rfl, fun hn2 => ?_⟩⟩
  have hs1 : Sub g _ := (Sub.refl g).new hn (some (.cells [.int .i64 line] .exact))
  have hs2 := hs1.new hn2 (some (.cells [.int .i64 word] .exact))
  have hk := upd_live (upd_same g n (some (.cells [.int .i64 line] .exact))) hn2 (some (.cells [.int .i64 word] .exact))
  have hc := upd_same (upd g n (some (.cells [.int .i64 line] .exact))) (n + 1) (some (.cells [.int .i64 word] .exact))
  refine chosenW_spec (storeP line word) Ev.val (hv.mono hs2) ?_ ?_ hlen ?_
  · intro g' n' e K hs hK
    exact stores1_spec (hs.live hk) (hs.live hc) hK
  · intro g' n' e K hs hK
    exact val_spec e hK
  · intro v' g' n' hs ho
    exact aRet_of (Sub.refl _) (hK _ _ _ (hs2.trans hs) (ho.base hs2))

theorem Words_spec {v w : Value} {xs ys : List Int} (hv : Sl encW 1 g v xs) (hw : Sl encW 1 g w ys) (hlen : xs.length < 1000000) {K : Cont}
    (hK : ∀ n', K (.bool (decide (xs = ys))) g n') : AC bellowskeep_Words_id [v, w] g n K := by
  refine ACalls.fold X0_mono ?_
  rw [← bellowskeep_Words_eq]
  simp only [bellowskeep_Words]
  refine hv.len (hw.len ?_)
  simp only [kBin_neq, kSplit_b, decide_eq_true_eq, decide_eq_false_iff_not]
  refine ⟨fun h => aRet_of (Sub.refl _) ?_, fun h => ?_⟩
  · have : xs ≠ ys := fun e => h (by rw [e])
    simpa [this] using hK n
  have hl : xs.length = ys.length := by omega
  refine lfp_ind (fun m t g' n' => g' = g ∧ ∃ i : Nat, m = xs.length - i ∧ i ≤ xs.length ∧ t 0 = v ∧ t 1 = w ∧ t 5 = .int .i64 i ∧ xs.take i = ys.take i) ?_
    (m := xs.length) ⟨rfl, 0, by simp, by simp, rfl, rfl, rfl, rfl⟩
  rintro I m t g1 n1 hI ⟨rfl, i, hm, hi, h0, h1, h5, hp⟩
  simp only [bellowskeep_Words_l1, h0, h1, h5]
  refine hv.len ?_
  simp only [kBin_lss, kSplit_b, decide_eq_true_eq, decide_eq_false_iff_not]
  refine ⟨fun hlt => ?_, fun hge => ?_⟩
  · have hlt : i < xs.length := by omega
    refine hv.idx encW_len (List.getElem?_eq_getElem hlt) (fun l o ha => ?_)
    simp only [kPtr_p]
    refine ha.ld (i := 0) rfl ?_
    refine hw.idx encW_len (List.getElem?_eq_getElem (hl ▸ hlt)) (fun l o ha => ?_)
    simp only [kPtr_p]
    refine ha.ld (i := 0) rfl ?_
    simp only [kBin_neq, kSplit_b, decide_eq_true_eq, decide_eq_false_iff_not, kBin_add]
    refine ⟨fun h => aRet_of (Sub.refl _) ?_, fun h => ?_⟩
    · have : xs ≠ ys := fun e => h (by subst e; rfl)
      simpa [this] using hK n1
    · rw [wrapNat (by omega)]
      refine hI (xs.length - (i + 1)) _ _ _ (by omega) ⟨rfl, i + 1, rfl, by omega, h0, h1, rfl, ?_⟩
      rw [List.take_add_one, List.take_add_one, List.getElem?_eq_getElem hlt, List.getElem?_eq_getElem (hl ▸ hlt), hp]
      have : xs[i] = ys[i] := Classical.byContradiction h
      simp [this]
  · have : i = xs.length := by omega
    subst this
    rw [List.take_length, hl, List.take_length] at hp
    exact aRet_of (Sub.refl _) (by simpa [hp] using hK n1)

theorem Equal_spec {v w : Value} {xs ys : List Ev} (hv : Sl encE 5 g v xs) (hw : Sl encE 5 g w ys) (hlen : xs.length < 1000000) {K : Cont}
    (hK : ∀ n', K (.bool (decide (xs = ys))) g n') : AC slices_Equal_api_Event_api_Event_id [v, w] g n K := by
  refine ACalls.fold X0_mono ?_
  rw [← slices_Equal_api_Event_api_Event_eq]
  simp only [slices_Equal_api_Event_api_Event]
  refine hv.len (hw.len ?_)
  simp only [kBin_neq, kSplit_b, decide_eq_true_eq, decide_eq_false_iff_not]
  refine ⟨fun h => aRet_of (Sub.refl _) ?_, fun h => hv.len ?_⟩
  · have : xs ≠ ys := fun e => h (by rw [e])
    simpa [this] using hK n
  have hl : xs.length = ys.length := by omega
  refine lfp_ind (fun m t g' n' => g' = g ∧ ∃ i : Nat, m = xs.length - i ∧ i ≤ xs.length ∧ t 0 = v ∧ t 1 = w ∧ t 12 = .int .i64 xs.length ∧ t 13 = .int .i64 i ∧ xs.take i = ys.take i) ?_
    (m := xs.length) ⟨rfl, 0, by simp, by simp, rfl, rfl, rfl, rfl, rfl⟩
  rintro I m t g1 n1 hI ⟨rfl, i, hm, hi, h0, h1, h12, h13, hp⟩
  simp only [slices_Equal_api_Event_api_Event_l1, h0, h1, h12, h13]
  simp only [kBin_lss, kSplit_b, decide_eq_true_eq, decide_eq_false_iff_not]
  refine ⟨fun hlt => ?_, fun hge => ?_⟩
  · have hlt : i < xs.length := by omega
    refine hv.idx encE_len (List.getElem?_eq_getElem hlt) (fun l o ha => ?_)
    simp only [kPtr_p]
    refine ha.ldN rfl ?_
    refine hw.idx encE_len (List.getElem?_eq_getElem (hl ▸ hlt)) (fun l o ha => ?_)
    simp only [kPtr_p]
    refine ha.ldN rfl ?_
    have hne : ∀ (a b : Ev) (K : Value → Prop), K (.bool (decide (a ≠ b))) → kBin (.agg [.i, .i, .i, .i, .i]) .neq (.agg (encE a).toArray) (.agg (encE b).toArray) K := by
      intro a b K h
      have e : (!(a.kind == b.kind && (a.core == b.core && (a.line == b.line && (a.word == b.word && (a.val == b.val && true)))))) = decide (a ≠ b) := by
        rw [Bool.eq_iff_iff]; cases a; cases b; simp [Ev.mk.injEq]
      show K (.bool _)
      rw [← e] at h
      exact h
    refine hne _ _ _ ?_
    simp only [kBin_neq, kSplit_b, decide_eq_true_eq, decide_eq_false_iff_not, kBin_add]
    refine ⟨fun h => aRet_of (Sub.refl _) ?_, fun h => ?_⟩
    · have : xs ≠ ys := fun e => h (by subst e; rfl)
      simpa [this] using hK n1
    · rw [wrapNat (by omega)]
      refine hI (xs.length - (i + 1)) _ _ _ (by omega) ⟨rfl, i + 1, rfl, by omega, h0, h1, h12, rfl, ?_⟩
      rw [List.take_add_one, List.take_add_one, List.getElem?_eq_getElem hlt, List.getElem?_eq_getElem (hl ▸ hlt), hp]
      have : xs[i] = ys[i] := Classical.byContradiction h
      simp [this]
  · have : i = xs.length := by omega
    subst this
    rw [List.take_length, hl, List.take_length] at hp
    exact aRet_of (Sub.refl _) (by simpa [hp] using hK n1)

theorem Same_spec {v w : Value} {xs ys : List Ev} (hv : Sl encE 5 g v xs) (hw : Sl encE 5 g w ys) (hlen : xs.length < 1000000) {K : Cont}
    (hK : ∀ n', K (.bool (decide (xs = ys))) g n') : AC trace_Same_id [v, w] g n K := by
  refine ACalls.fold X0_mono ?_
  rw [← trace_Same_eq]
  simp only [trace_Same]
  exact Equal_spec hv hw hlen fun n' => aRet_of (Sub.refl _) (hK _)
end Go.Proofs.Ytncodeibkmekmaa.Gen

namespace Go.Proofs.Ytncodeibkmekmaa.Gen
open Go Go.Proofs.Ytncodeibkmekmaa.Abs Go.RowKit
variable {g : G} {n : Nat}

theorem Sub_of_live {g' g : G} (h : ∀ l b, g' l = some b → g l = some b) : Sub g' g := fun l => by
  cases e : g' l with
  | none => exact .inl rfl
  | some b => exact .inr (h l b e).symm
theorem kIndexAddr_s {l o m c z : Nat} {k : IntKind} {j : Int} {K : Value → Prop} (h0 : 0 ≤ j) (h1 : j < m) (kk : K (ptr l (o + j.toNat * z))) : kIndexAddr (.slice (some ⟨l, o, none⟩) m c) (.int k j) z K := ⟨h0, h1, kk⟩

def cutStep (s : List (List Ev) × List Ev) (e : Ev) : List (List Ev) × List Ev := if e.kind = 11 then (s.1 ++ [s.2], []) else (s.1, s.2 ++ [e])
def cutP (l : List Ev) : List (List Ev) × List Ev := l.foldl cutStep ([], [])
def cutF (l : List Ev) : List (List Ev) := (cutP l).1 ++ [(cutP l).2]

/-- a slice of slices of events -/
def Parts (g : G) (v : Value) (ps : List (List Ev)) : Prop := ∃ cs, Rd g v 1 ps.length cs ∧ ∀ (j : Nat) (p : List Ev), ps[j]? = some p → ∃ c, cs[j]? = some c ∧ Sl encE 5 g c p
theorem Parts.mono {g g' : G} {v : Value} {ps : List (List Ev)} (h : Parts g v ps) (hs : Sub g g') : Parts g' v ps := by
  obtain ⟨cs, h1, h2⟩ := h
  exact ⟨cs, h1.mono hs, fun j p hp => by obtain ⟨c, hc, hl⟩ := h2 j p hp; exact ⟨c, hc, hl.mono hs⟩⟩

theorem own_cell {α : Type} {enc : α → List Value} {z : Nat} {g0 : G} {v : Value} {xs : List α} (h : OwnS enc z g0 g v xs) : isCell v = true := by
  rcases h with ⟨_, _, a, rfl, _⟩ | ⟨l, c, bk, rfl, _⟩ <;> rfl

theorem Cut_spec {v : Value} {xs : List Ev} (hv : Sl encE 5 g v xs) (hlen : xs.length < 1000000) {K : Cont}
    (hK : ∀ v' g' n', Sub g g' → Parts g' v' (cutF xs) → K v' g' n') : AC trace_Cut_id [v] g n K := by
  refine ACalls.fold X0_mono ?_
  rw [← trace_Cut_eq]
  simp only [trace_Cut]
  refine ⟨rfl, by decide, ?_⟩
  intro hn
  refine hv.len ?_
  have hs0 : Sub g (upd g n (some (.cells [.slice none 0 0] .exact))) := (Sub.refl g).new hn _
  refine lfp_ind (fun m t g1 n1 => ∃ (i : Nat) (qs : List (List Ev)) (q : List Ev) (gb : G) (ds : List Value) (d : Value), m = xs.length - i ∧ i ≤ xs.length ∧ t 8 = v ∧ t 9 = .int .i64 xs.length ∧ t 10 = .int .i64 i ∧
      cutP (xs.take i) = (qs, q) ∧ Sub g gb ∧ Sub gb g1 ∧ Own gb g1 (t 3) 1 (qs.length + 1) (ds ++ [d]) ∧ ds.length = qs.length ∧ (∀ (j : Nat) (p : List Ev), qs[j]? = some p → ∃ c, ds[j]? = some c ∧ Sl encE 5 gb c p) ∧
      OwnS encE 5 gb g1 d q ∧ (∀ l, blkOf d = some l → blkOf (t 3) ≠ some l) ∧ qs.length ≤ i ∧ q.length ≤ i) ?_
    (m := xs.length) ⟨0, [], [], g, [], .slice none 0 0, by simp, by simp, rfl, rfl, rfl, rfl, Sub.refl g, hs0, Own.lit (upd_same _ _ _) hn rfl (by decide), rfl, by simp, OwnS.nil, by simp [blkOf], by simp, by simp⟩
  rintro I m t g1 n1 hI ⟨i, qs, q, gb, ds, d, hm, hi, h8, h9, h10, hc, hs1, hs2, hown, hdl, hds, hod, hbd, hq1, hq2⟩
  simp only [trace_Cut_l1, h8, h9, h10, kBin_lss, kSplit_b, decide_eq_true_eq, decide_eq_false_iff_not]
  refine ⟨fun hlt => ?_, fun hge => ?_⟩
  · have hlt : i < xs.length := by omega
    have he : xs[i]? = some xs[i] := List.getElem?_eq_getElem hlt
    generalize xs[i] = e at he
    have htk : xs.take (i + 1) = xs.take i ++ [e] := by rw [List.take_add_one, he]; rfl
    have hc' : cutP (xs.take (i + 1)) = cutStep (qs, q) e := by rw [htk]; unfold cutP at hc ⊢; rw [List.foldl_append, hc]; rfl
    have hw : IntKind.i64.wrap ((i : Int) + 1) = ((i + 1 : Nat) : Int) := wrapNat (by omega)
    refine (hv.mono (hs1.trans hs2)).idx encE_len he (fun l o ha => ?_)
    simp only [kPtr_p]
    refine ha.ldN rfl ?_
    intro hn1
    simp only [kAgg_a]
    refine ⟨rfl, kStN_of (upd_same _ _ _) rfl (by simp [encE]) (encE_cell e) ?_⟩
    have hs3 : Sub g1 _ := (((Sub.refl g1).new hn1 (some (.cells [(.int .i64 0), (.int .i64 0), (.int .i64 0), (.int .i64 0), (.int .u64 0)] .exact))).upd_fresh (some (.cells (encE e) .exact)) hn1)
    have hl3 : (upd (upd g1 n1 (some (.cells [(.int .i64 0), (.int .i64 0), (.int .i64 0), (.int .i64 0), (.int .u64 0)] .exact))) n1 (some (.cells (encE e) .exact))) n1 = some (.cells (encE e) .exact) := upd_same _ _ _
    refine kLd_of (upd_same _ _ _) rfl ?_
    simp only [kBin_eql, kSplit_b, decide_eq_true_eq, decide_eq_false_iff_not]
    rcases hown with ⟨h, _⟩ | ⟨lo, c, bk, h3, hg, h0, hl, hck⟩
    · exact absurd h (by omega)
    have hrw : bk.rw = true := by rcases hck with ⟨_, rfl, _⟩ | ⟨_, rfl⟩ <;> rfl
    have hown : Own gb g1 (.slice (some ⟨lo, 0, none⟩) (qs.length + 1) c) 1 (qs.length + 1) (ds ++ [d]) := .inr ⟨lo, c, bk, rfl, hg, h0, hl, hck⟩
    refine ⟨fun hk => ?_, fun hk => ?_⟩
    · -- a failure: a new part
      refine ⟨rfl, by decide, ?_⟩
      intro hn5
      have hs5 := hs3.new hn5 (some (.cells [.slice none 0 0] .exact))
      rw [h3]
      refine append_own (hs2.trans hs5) (hown.mono hs5) (Rd.lit (m := 1) (upd_same _ _ _) rfl) (show ∀ v ∈ [Value.slice none 0 0], isCell v = true from by simp [isCell]) (by decide) (by omega) (by omega) (fun v' g' n' hs' ho' hkeep hfr => ?_)
      simp only [kBin_add, hw]
      have hlo5 := hs5.live hg
      refine hI (xs.length - (i + 1)) _ _ _ (by omega) ⟨i + 1, qs ++ [q], [], upd (upd (upd (upd g1 n1 (some (.cells [(.int .i64 0), (.int .i64 0), (.int .i64 0), (.int .i64 0), (.int .u64 0)] .exact))) n1 (some (.cells (encE e) .exact))) (n1 + 1) (some (.cells [.slice none 0 0] .exact))) lo none, ds ++ [d], .slice none 0 0, rfl, by omega, h8, h9, rfl, by rw [hc']; simp [cutStep, hk], ?_, ?_, ?_, by simp [hdl], ?_, OwnS.nil, by simp [blkOf], by simp; omega, by simp⟩
      · exact hs1.trans ((hs2.trans hs5).upd_fresh _ h0)
      · refine Sub_of_live fun l b hb => ?_
        have hne : l ≠ lo := by intro e; subst e; rw [upd_same] at hb; cases hb
        rw [upd_ne _ _ hne] at hb
        exact hkeep l b hb (fun e => hne (Option.some.inj e).symm)
      · show Own _ g' v' 1 _ _
        rw [List.length_append, List.length_singleton]
        rcases ho' with ⟨h, _⟩ | ⟨lo', c', bk', rfl, hg', h0', hl', hck'⟩
        · exact absurd h (by omega)
        · refine .inr ⟨lo', c', bk', rfl, hg', ?_, by simp [hdl], hck'⟩
          have := hfr (by omega) lo' rfl
          by_cases e : lo' = lo
          · subst e; rw [upd_same]
          · rw [upd_ne _ _ e]; exact this
      · intro j p hp
        rw [List.getElem?_append] at hp
        split at hp
        · rename_i hj
          obtain ⟨c1, h1, h2⟩ := hds j p hp
          exact ⟨c1, by rw [List.getElem?_append_left (by omega)]; exact h1, h2.mono ((hs2.trans hs5).upd_fresh _ h0)⟩
        · rename_i hj
          have hj0 : j - qs.length = 0 := by
            rcases Nat.eq_zero_or_pos (j - qs.length) with h | h
            · exact h
            · rw [List.getElem?_eq_none (by simp; omega)] at hp; cases hp
          rw [hj0] at hp
          simp at hp
          subst hp
          refine ⟨d, by rw [List.getElem?_append_right (by omega), show j - ds.length = 0 by omega]; rfl, ?_⟩
          refine OwnS.sl (g0 := gb) (hod.keep fun l b hb hbl => ?_)
          have hne : l ≠ lo := by intro e; subst e; exact hbd l hbl (by rw [h3]; rfl)
          rw [upd_ne _ _ hne]
          exact hs5.live hb
    · -- an event of the last part
      rw [h3]
      simp only [kLen_s, kBin_sub]
      have hw2 : IntKind.i64.wrap (((qs.length + 1 : Nat) : Int) - 1) = (qs.length : Int) := by rw [wrap64_of (by omega) (by omega)]; omega
      rw [hw2]
      refine kIndexAddr_s (by omega) (by omega) ?_
      simp only [kPtr_p, Int.toNat_natCast, Nat.zero_add, Nat.mul_one]
      have hdd : (ds ++ [d])[qs.length]? = some d := by rw [List.getElem?_append_right (by omega), show qs.length - ds.length = 0 by omega]; rfl
      refine kLd_of (hs3.live hg) hdd ?_
      refine kLdN_of hl3 (by simp [encE]) ?_
      refine ⟨rfl, by decide, ?_⟩
      intro hn5
      have hs5 := hs3.new hn5 (some (.cells (encE e) .exact))
      refine ⟨?_, ?_⟩
      · show upd _ _ _ lo = _
        rw [upd_ne]
        intro e; subst e; exact absurd ((hs3.live hg).symm.trans hn5) (by simp)
      refine OwnS.append (hod.mono hs5) (hs2.trans hs5) (Sl.one (x := e) (encE_len _) (upd_same _ _ _)) encE_cell (by decide) (by simp; omega) (by simp; omega) (fun v' g' n' hs' ho' hkeep hfr => ?_)
      refine kIndexAddr_s (by omega) (by omega) ?_
      simp only [kPtr_p, Int.toNat_natCast, Nat.zero_add, Nat.mul_one]
      have hlo5 := hs5.live hg
      have hne : blkOf d ≠ some lo := fun e => hbd lo e (by rw [h3]; rfl)
      have hg7 := hkeep lo _ hlo5 hne
      have hlv : ∀ l, blkOf v' = some l → l ≠ lo := fun l hl e => by
        subst e; exact absurd (hlo5.symm.trans (hfr (by simp) l hl)) (by simp)
      refine kSt_of hg7 hrw (by simp; omega) (own_cell ho') ?_
      simp only [kBin_add, hw]
      have hset : (ds ++ [d]).set qs.length v' = ds ++ [v'] := by rw [← hdl, List.set_append_right _ _ (by omega)]; simp
      rw [hset]
      refine hI (xs.length - (i + 1)) _ _ _ (by omega) ⟨i + 1, qs, q ++ [e], gb, ds, v', rfl, by omega, h8, h9, rfl, by rw [hc']; simp [cutStep, hk], hs1, hs'.upd_fresh _ h0, ?_, hdl, hds, ?_, ?_, by omega, by simp; omega⟩
      · show Own gb _ (t 3) 1 _ _
        rw [h3]
        exact .inr ⟨lo, c, bk, rfl, upd_same _ _ _, h0, by simpa using hl, hck⟩
      · exact ho'.keep fun l b hb hbl => by rw [upd_ne _ _ (hlv l hbl)]; exact hb
      · intro l hl
        show blkOf (t 3) ≠ some l
        rw [h3]
        simp only [blkOf, ne_eq, Option.some.injEq]
        exact fun e => hlv l hl e.symm
  · have hge : i = xs.length := by omega
    subst hge
    rw [List.take_length] at hc
    refine aRet_of (Sub.refl _) (hK _ _ _ (hs1.trans hs2) ⟨ds ++ [d], ?_, ?_⟩)
    · have : (cutF xs).length = qs.length + 1 := by simp [cutF, hc]
      rw [this]; exact hown.rd
    · intro j p hp
      simp only [cutF, hc] at hp
      rw [List.getElem?_append] at hp
      split at hp
      · rename_i hj
        obtain ⟨c1, h1, h2⟩ := hds j p hp
        exact ⟨c1, by rw [List.getElem?_append_left (by omega)]; exact h1, h2.mono hs2⟩
      · rename_i hj
        have hj0 : j - qs.length = 0 := by
          rcases Nat.eq_zero_or_pos (j - qs.length) with h | h
          · exact h
          · rw [List.getElem?_eq_none (by simp; omega)] at hp; cases hp
        rw [hj0] at hp
        simp at hp
        subst hp
        exact ⟨d, by rw [List.getElem?_append_right (by omega), show j - ds.length = 0 by omega]; rfl, hod.sl⟩
end Go.Proofs.Ytncodeibkmekmaa.Gen

namespace Go.Proofs.Ytncodeibkmekmaa.Gen
open Go Go.Proofs.Ytncodeibkmekmaa.Abs Go.RowKit
variable {g : G} {n : Nat}

theorem kSplit_t {b : Bool} {A B : Prop} (h : b = true) (k : A) : kSplit (.bool b) A B := by subst h; exact k
theorem kSplit_f {b : Bool} {A B : Prop} (h : b = false) (k : B) : kSplit (.bool b) A B := by subst h; exact k
theorem neE (a b : Ev) (K : Value → Prop) (h : K (.bool (decide (a ≠ b)))) : kBin (.agg [.i, .i, .i, .i, .i]) .neq (.agg (encE a).toArray) (.agg (encE b).toArray) K := by
  have e : (!(a.kind == b.kind && (a.core == b.core && (a.line == b.line && (a.word == b.word && (a.val == b.val && true)))))) = decide (a ≠ b) := by
    rw [Bool.eq_iff_iff]; cases a; cases b; simp [Ev.mk.injEq]
  show K (.bool _)
  rw [← e] at h
  exact h

theorem Parts.get {v : Value} {ps : List (List Ev)} {j : Nat} {i : Int} {p : List Ev} {K : Value → Prop} (h : Parts g v ps) (hi : i = (j : Int)) (hj : ps[j]? = some p)
    (kk : ∀ l o c, Sl encE 5 g c p → (∀ K' : Value → Prop, K' c → kLd g l o K') → K (ptr l o)) : kIndexAddr v (.int .i64 i) 1 K := by
  obtain ⟨cs, hr, hc⟩ := h
  obtain ⟨c, h1, h2⟩ := hc j p hj
  have hlt : j < ps.length := by rcases Nat.lt_or_ge j ps.length with h | h; exact h; rw [List.getElem?_eq_none h] at hj; cases hj
  subst hi
  refine hr.idx (by omega) (by omega) (fun l o ha => ?_)
  have e : (cs.drop ((j : Int).toNat * 1)).take 1 = [c] := by
    rw [Int.toNat_natCast, Nat.mul_one]
    have := List.drop_eq_getElem?_toList_append (l := cs) (i := j)
    rw [this, h1]; rfl
  rw [e] at ha
  exact kk l o c h2 fun K' hk => ha.ld (i := 0) rfl hk
theorem Parts.len {v : Value} {ps : List (List Ev)} {K : Value → Prop} (h : Parts g v ps) (k : K (.int .i64 ps.length)) : kLen v K := by obtain ⟨cs, hr, _⟩ := h; exact hr.len k

theorem wakes_spec {K : Cont} (hK : ∀ n', K (.bool true) g n') : AC bellowslaw17_wakes_id [] g n K := by
  refine ACalls.fold X0_mono ?_
  rw [← bellowslaw17_wakes_eq]
  simp only [bellowslaw17_wakes]
  refine ⟨rfl, by decide, rfl, by decide, rfl, by decide, rfl, by decide, rfl, by decide, rfl, by decide, rfl, by decide, rfl, by decide, rfl, by decide, rfl, by decide, rfl, by decide, ?_⟩
  intro hn
  have hs1 : Sub g _ := (Sub.refl g).new hn (some (.cells (([⟨8, 1, 0, 0, 5⟩, ⟨11, 0, 0, 0, 0⟩, ⟨3, 0, 2, 3, 7⟩] : List Ev).map encE).flatten .exact))
  have hl := upd_same g n (some (.cells (([⟨8, 1, 0, 0, 5⟩, ⟨11, 0, 0, 0, 0⟩, ⟨3, 0, 2, 3, 7⟩] : List Ev).map encE).flatten .exact))
  have hsl : Sl encE 5 _ (.slice (some ⟨n, 0, none⟩) 3 3) [⟨8, 1, 0, 0, 5⟩, ⟨11, 0, 0, 0, 0⟩, ⟨3, 0, 2, 3, 7⟩] := Rd.lit hl rfl
  refine Cut_spec hsl (by decide) (fun v8 g2 n8 hs2 hp => ?_)
  rw [show cutF [⟨8, 1, 0, 0, 5⟩, ⟨11, 0, 0, 0, 0⟩, ⟨3, 0, 2, 3, 7⟩] = [[⟨8, 1, 0, 0, 5⟩], [⟨3, 0, 2, 3, 7⟩]] from by decide] at hp
  refine hp.len ?_
  simp only [kBin_eql]
  refine kSplit_t rfl ?_
  refine hp.get (j := 0) rfl rfl (fun l o c hc hld => hld _ (hc.len ?_))
  simp only [kBin_eql]
  refine kSplit_t rfl ?_
  refine hp.get (j := 1) rfl rfl (fun l o c hc hld => hld _ (hc.len ?_))
  simp only [kBin_eql]
  refine kSplit_t rfl ?_
  refine Tells_spec (hsl.mono hs2) (by decide) (fun v28 g3 n28 hs3 ho3 => ?_)
  refine ⟨rfl, by decide, ?_⟩
  intro hn4
  have hs4 := (Sub.refl g3).new hn4 (some (.cells (encW 5) .exact))
  have hl4 := upd_same g3 n28 (some (.cells (encW 5) .exact))
  rw [show (List.filter (tellP 1) ([⟨8, 1, 0, 0, 5⟩, ⟨11, 0, 0, 0, 0⟩, ⟨3, 0, 2, 3, 7⟩] : List Ev)).map Ev.val = [5] from by decide] at ho3
  refine Words_spec (xs := [5]) (ys := [5]) (ho3.sl.mono hs4) (Sl.one (encW_len _) hl4) (by decide) (fun n5 => ?_)
  refine kSplit_t rfl ?_
  refine Stores_spec (hsl.mono (hs2.trans (hs3.trans hs4))) (by decide) (fun v34 g6 n34 hs6 ho6 => ?_)
  refine ⟨rfl, by decide, ?_⟩
  intro hn7
  have hs7 := (Sub.refl g6).new hn7 (some (.cells (encW 7) .exact))
  have hl7 := upd_same g6 n34 (some (.cells (encW 7) .exact))
  rw [show (List.filter (storeP 2 3) ([⟨8, 1, 0, 0, 5⟩, ⟨11, 0, 0, 0, 0⟩, ⟨3, 0, 2, 3, 7⟩] : List Ev)).map Ev.val = [7] from by decide] at ho6
  refine Words_spec (xs := [7]) (ys := [7]) (ho6.sl.mono hs7) (Sl.one (encW_len _) hl7) (by decide) (fun n8 => ?_)
  refine kSplit_t rfl ?_
  have hall := hs2.trans (hs3.trans (hs4.trans (hs6.trans hs7)))
  refine Of_spec (hsl.mono hall) (by decide) (fun v40 g9 n40 hs9 ho9 => ?_)
  refine ho9.sl.len ?_
  simp only [kBin_eql]
  refine kSplit_t (by decide) ?_
  refine Same_spec (hsl.mono (hall.trans hs9)) (hsl.mono (hall.trans hs9)) (by decide) (fun n10 => ?_)
  exact aRet_of (hs1.trans (hall.trans hs9)) (by simpa using hK n10)

/-! the parts -/
structure CutInv (pre : List Ev) (s : List (List Ev) × List Ev) : Prop where
  cs : ∃ cs : List (List Ev), cs.length = s.1.length ∧ (∀ (i : Nat) (p : List Ev), s.1[i]? = some p → ∃ f : Ev, f.kind = 11 ∧ cs[i]? = some (p ++ [f])) ∧ pre = cs.flatten ++ s.2
  ok : ∀ p ∈ s.1 ++ [s.2], ∀ e ∈ p, e.kind ≠ 11
  count : (pre.filter (ofP 11 (-1))).length = s.1.length

theorem cutInv_step {pre : List Ev} {s : List (List Ev) × List Ev} (h : CutInv pre s) (e : Ev) : CutInv (pre ++ [e]) (cutStep s e) := by
  obtain ⟨⟨cs, h1, h2, h3⟩, hok, hcount⟩ := h
  obtain ⟨qs, q⟩ := s
  simp only at h1 h2 h3 hok hcount
  by_cases hk : e.kind = 11
  · refine ⟨⟨cs ++ [q ++ [e]], by simp [cutStep, hk, h1], ?_, by simp [cutStep, hk, h3]⟩, ?_, by simp [cutStep, hk, hcount, ofP]⟩
    · intro i p hp
      simp only [cutStep, hk, if_true] at hp
      rw [List.getElem?_append] at hp
      split at hp
      · rename_i hi
        obtain ⟨f, hf, hc⟩ := h2 i p hp
        exact ⟨f, hf, by rw [List.getElem?_append_left (by omega)]; exact hc⟩
      · rename_i hi
        have hi0 : i - qs.length = 0 := by
          rcases Nat.eq_zero_or_pos (i - qs.length) with h | h
          · exact h
          · rw [List.getElem?_eq_none (by simp; omega)] at hp; cases hp
        rw [hi0] at hp
        simp at hp
        subst hp
        exact ⟨e, hk, by rw [List.getElem?_append_right (by omega), show i - cs.length = 0 by omega]; rfl⟩
    · intro p hp
      simp only [cutStep, hk, if_true] at hp
      rcases List.mem_append.1 hp with h | h
      · exact hok p h
      · simp at h; subst h; simp
  · refine ⟨⟨cs, by simp [cutStep, hk, h1], ?_, by simp [cutStep, hk, h3]⟩, ?_, by simp [cutStep, hk, hcount, ofP]⟩
    · intro i p hp
      simp only [cutStep, hk, if_false] at hp
      exact h2 i p hp
    · intro p hp x hx
      simp only [cutStep, hk, if_false] at hp
      rcases List.mem_append.1 hp with h | h
      · exact hok p (List.mem_append_left _ h) x hx
      · simp at h
        subst h
        rcases List.mem_append.1 hx with h | h
        · exact hok q (by simp) x h
        · simp at h; subst h; exact hk
theorem cutInv_fold : ∀ (l pre : List Ev) (s : List (List Ev) × List Ev), CutInv pre s → CutInv (pre ++ l) (l.foldl cutStep s)
  | [], pre, s, h => by simpa using h
  | e :: l, pre, s, h => by
    have := cutInv_fold l (pre ++ [e]) (cutStep s e) (cutInv_step h e)
    simpa using this
theorem cutInv (l : List Ev) : CutInv l (cutP l) := by
  have := cutInv_fold l [] ([], []) ⟨⟨[], by simp⟩, by simp, by simp⟩
  simpa [cutP] using this
theorem cut_count (l : List Ev) : (cutF l).length = (l.filter (ofP 11 (-1))).length + 1 := by simp [cutF, (cutInv l).count]

theorem flatten_at {α : Type} : ∀ (bs : List (List α)) (i : Nat) (b : List α) (k : Nat), bs[i]? = some b → k < b.length → bs.flatten[(bs.take i).flatten.length + k]? = b[k]?
  | [], i, b, k, h, _ => by simp at h
  | c :: bs, 0, b, k, h, hk => by
    simp at h; subst h
    simp [List.getElem?_append_left hk]
  | c :: bs, i + 1, b, k, h, hk => by
    have ih := flatten_at bs i b k (by simpa using h) hk
    rw [← ih]
    simp only [List.take_succ_cons, List.flatten_cons, List.length_append]
    rw [List.getElem?_append_right (by omega)]
    congr 1; omega

/-- where the parts stand in the whole: 'off i' is where part i begins -/
theorem cut_offs (l : List Ev) : ∃ off : Nat → Nat, off 0 = 0 ∧ (∀ (i : Nat) (p : List Ev), (cutF l)[i]? = some p → off (i + 1) = off i + p.length + 1 ∧ (∀ (k : Nat) (e : Ev), p[k]? = some e → l[off i + k]? = some e ∧ e.kind ≠ 11)) ∧
    (∀ i, 0 < i → i < (cutF l).length → ∃ e : Ev, 0 < off i ∧ l[off i - 1]? = some e ∧ e.kind = 11) ∧ off (cutF l).length = l.length + 1 := by
  obtain ⟨⟨cs, h1, h2, h3⟩, hok, _⟩ := cutInv l
  obtain ⟨fake, hfake⟩ : ∃ e : Ev, e.kind = 11 := ⟨⟨11, 0, 0, 0, 0⟩, rfl⟩
  have hbs : ∀ (i : Nat) (p : List Ev), (cutF l)[i]? = some p → ∃ f : Ev, f.kind = 11 ∧ (cs ++ [(cutP l).2 ++ [fake]])[i]? = some (p ++ [f]) := by
    intro i p hp
    unfold cutF at hp
    rw [List.getElem?_append] at hp
    split at hp
    · obtain ⟨f, hf, hc⟩ := h2 i p hp
      exact ⟨f, hf, by rw [List.getElem?_append_left (by omega)]; exact hc⟩
    · have hi0 : i - (cutP l).1.length = 0 := by
        rcases Nat.eq_zero_or_pos (i - (cutP l).1.length) with h | h
        · exact h
        · rw [List.getElem?_eq_none (by simp; omega)] at hp; cases hp
      rw [hi0] at hp
      simp at hp
      subst hp
      exact ⟨fake, hfake, by rw [List.getElem?_append_right (by omega), show i - cs.length = 0 by omega]; rfl⟩
  have hfl : (cs ++ [(cutP l).2 ++ [fake]]).flatten = l ++ [fake] := by
    have : l ++ [fake] = cs.flatten ++ (cutP l).2 ++ [fake] := by rw [← h3]
    rw [this]; simp
  have hlen : (cs ++ [(cutP l).2 ++ [fake]]).length = (cutF l).length := by simp [cutF, h1]
  generalize cs ++ [(cutP l).2 ++ [fake]] = bs at hbs hfl hlen
  have hoff : ∀ (i : Nat) (b : List Ev), bs[i]? = some b → (bs.take (i + 1)).flatten.length = (bs.take i).flatten.length + b.length := by
    intro i b hb
    rw [List.take_add_one, hb]; simp
  have htot : (bs.take (cutF l).length).flatten.length = l.length + 1 := by rw [← hlen, List.take_length, hfl]; simp
  have hle : ∀ i, (bs.take i).flatten.length ≤ l.length + 1 := by
    intro i
    have : (bs.take i).flatten.length + (bs.drop i).flatten.length = l.length + 1 := by
      rw [← List.length_append, ← List.flatten_append, List.take_append_drop, hfl]; simp
    omega
  refine ⟨fun i => (bs.take i).flatten.length, by simp, ?_, ?_, htot⟩
  · intro i p hp
    obtain ⟨f, hf, hb⟩ := hbs i p hp
    refine ⟨show (bs.take (i + 1)).flatten.length = (bs.take i).flatten.length + p.length + 1 by rw [hoff i _ hb]; simp; omega, ?_⟩
    intro k e he
    have hk : k < p.length := by rcases Nat.lt_or_ge k p.length with h | h; exact h; rw [List.getElem?_eq_none h] at he; cases he
    have h := flatten_at bs i (p ++ [f]) k hb (by simp; omega)
    rw [hfl, List.getElem?_append_left hk, he] at h
    have hle' := hle (i + 1)
    rw [hoff i _ hb] at hle'
    simp only [List.length_append, List.length_singleton] at hle'
    rw [List.getElem?_append_left (by omega)] at h
    exact ⟨h, hok p (List.mem_of_getElem? hp) e (List.mem_of_getElem? he)⟩
  · intro i h0 hi
    obtain ⟨j, rfl⟩ : ∃ j, i = j + 1 := ⟨i - 1, by omega⟩
    have hp : (cutF l)[j]? = some (cutF l)[j] := List.getElem?_eq_getElem (by omega)
    obtain ⟨f, hf, hb⟩ := hbs j _ hp
    have hp2 : (cutF l)[j + 1]? = some (cutF l)[j + 1] := List.getElem?_eq_getElem hi
    obtain ⟨f2, hf2, hb2⟩ := hbs (j + 1) _ hp2
    have ho := hoff j _ hb
    have ho2 := hoff (j + 1) _ hb2
    have hle2 := hle (j + 1 + 1)
    simp only [List.length_append, List.length_singleton] at ho ho2
    refine ⟨f, show 0 < (bs.take (j + 1)).flatten.length by omega, ?_, hf⟩
    show l[(bs.take (j + 1)).flatten.length - 1]? = some f
    have h := flatten_at bs j _ (cutF l)[j].length hb (by simp)
    rw [hfl] at h
    rw [List.getElem?_append_left (by omega)] at h
    rw [show (bs.take (j + 1)).flatten.length - 1 = (bs.take j).flatten.length + (cutF l)[j].length by omega, h]
    simp
end Go.Proofs.Ytncodeibkmekmaa.Gen

namespace Go.Proofs.Ytncodeibkmekmaa.Gen
open Go Go.Proofs.Ytncodeibkmekmaa.Abs Go.RowKit
variable {g : G} {n : Nat}

theorem lt_of_get {α : Type} {xs : List α} {i : Nat} {x : α} (h : xs[i]? = some x) : i < xs.length := by
  rcases Nat.lt_or_ge i xs.length with h' | h'
  · exact h'
  · rw [List.getElem?_eq_none h'] at h; cases h
theorem take_add {α : Type} {xs : List α} {i : Nat} {x : α} (h : xs[i]? = some x) : xs.take (i + 1) = xs.take i ++ [x] := by rw [List.take_add_one, h]; rfl
theorem drop_get {α : Type} {xs : List α} {i : Nat} {x : α} (h : xs[i]? = some x) : xs.drop i = x :: xs.drop (i + 1) := by
  rw [List.drop_eq_getElem?_toList_append, h]; rfl

def toldP (core : Int) (e : Ev) : Bool := decide (core = -1) && (decide (e.kind = 8) && decide (e.core ≠ -1))
theorem told_spec {v : Value} {xs : List Ev} {core : Int} (hv : Sl encE 5 g v xs) (hlen : xs.length < 1000000) {K : Cont}
    (hK : ∀ n', K (.int .i64 (xs.filter (toldP core)).length) g n') : AC bellowslaw17_told_id [v, .int .i64 core] g n K := by
  refine ACalls.fold X0_mono ?_
  rw [← bellowslaw17_told_eq]
  simp only [bellowslaw17_told]
  refine lfp_ind (fun m t g' n' => g' = g ∧ ∃ i : Nat, m = xs.length - i ∧ i ≤ xs.length ∧ t 0 = v ∧ t 1 = .int .i64 core ∧ t 5 = .int .i64 (((xs.take i).filter (toldP core)).length : Nat) ∧ t 6 = .int .i64 i) ?_
    (m := xs.length) ⟨rfl, 0, by simp, by simp, rfl, rfl, rfl, rfl⟩
  rintro I m t g1 n1 hI ⟨rfl, i, hm, hi, h0, h1, h5, h6⟩
  simp only [bellowslaw17_told_l1, h0, h1, h5, h6]
  refine hv.len ?_
  simp only [kBin_lss, kSplit_b, decide_eq_true_eq, decide_eq_false_iff_not]
  refine ⟨fun hlt => ?_, fun hge => ?_⟩
  · have hlt : i < xs.length := by omega
    have he : xs[i]? = some xs[i] := List.getElem?_eq_getElem hlt
    generalize xs[i] = e at he
    have hcl := List.length_filter_le (toldP core) (xs.take i)
    rw [List.length_take] at hcl
    have next : ∀ (t : Env) (n1 : Nat), t 0 = v → t 1 = .int .i64 core → t 5 = .int .i64 (((xs.take (i + 1)).filter (toldP core)).length : Nat) → t 6 = .int .i64 i → bellowslaw17_told_j2 AC K I t g1 n1 := by
      intro t n1 h0 h1 h5 h6
      simp only [bellowslaw17_told_j2, h6, kBin_add]
      rw [wrapNat (by omega)]
      exact hI (xs.length - (i + 1)) _ _ _ (by omega) ⟨rfl, i + 1, rfl, by omega, h0, h1, h5, rfl⟩
    have no : toldP core e = false → ((xs.take (i + 1)).filter (toldP core)).length = ((xs.take i).filter (toldP core)).length := by
      intro h; rw [take_add he]; simp [h]
    simp only [kBin_eql, kSplit_b, decide_eq_true_eq, decide_eq_false_iff_not]
    refine ⟨fun hc => ?_, fun hc => next _ _ h0 h1 (by rw [no (by simp [toldP, hc])]; exact h5) h6⟩
    refine hv.idx encE_len he (fun l o ha => ?_)
    simp only [kPtr_p]
    refine ha.ld (i := 0) rfl ?_
    simp only [kBin_eql, kSplit_b, decide_eq_true_eq, decide_eq_false_iff_not]
    refine ⟨fun hk => ?_, fun hk => next _ _ h0 h1 (by rw [no (by simp [toldP, hk])]; exact h5) h6⟩
    refine hv.idx encE_len he (fun l o ha => ?_)
    simp only [kPtr_p]
    refine ha.ld (i := 1) rfl ?_
    simp only [kBin_neq, kBin_add, kSplit_b, decide_eq_true_eq, decide_eq_false_iff_not]
    refine ⟨fun hk2 => ?_, fun hk2 => next _ _ h0 h1 (by rw [no (by simpa [toldP] using fun _ _ => Classical.not_not.1 hk2)]; exact h5) h6⟩
    rw [wrapNat (by omega)]
    refine next _ _ h0 h1 ?_ h6
    show Value.int .i64 _ = _
    rw [take_add he]
    have : toldP core e = true := by simp [toldP, hc, hk, hk2]
    simp [this]
  · have : i = xs.length := by omega
    subst this
    exact aRet_of (Sub.refl _) (by rw [List.take_length]; exact hK _)

/-- counts of events whose kinds are apart add up -/
theorem count_add {α : Type} (p q r : α → Bool) : ∀ (xs : List α), (∀ x ∈ xs, r x = (p x || q x) ∧ ¬ (p x = true ∧ q x = true)) → (xs.filter r).length = (xs.filter p).length + (xs.filter q).length
  | [], _ => rfl
  | x :: xs, h => by
    have ih := count_add p q r xs (fun x hx => h x (by simp [hx]))
    obtain ⟨h1, h2⟩ := h x (by simp)
    cases hp : p x <;> cases hq : q x <;> simp [hp, hq] at h1 h2 <;> simp [hp, hq, h1, ih] <;> omega
def rangeP (k : Int) (e : Ev) : Bool := decide (-1 ≤ e.kind) && decide (e.kind < k) && decide (e.kind ≠ 0)
def otherP (e : Ev) : Bool := decide (e.kind < -1) || decide (e.kind = 0) || decide (20 < e.kind)
theorem range_step (xs : List Ev) (k : Int) (h0 : -1 ≤ k) (hk : k ≠ 0) : (xs.filter (rangeP (k + 1))).length = (xs.filter (rangeP k)).length + (xs.filter (ofP k (-1))).length := by
  refine count_add _ _ _ _ fun e _ => ?_
  constructor
  · rw [Bool.eq_iff_iff]; simp [rangeP, ofP, hk]; omega
  · simp [rangeP, ofP, hk]; omega
theorem range_skip (xs : List Ev) : (xs.filter (rangeP (0 + 1))).length = (xs.filter (rangeP 0)).length := by
  congr 2; funext e; rw [Bool.eq_iff_iff]; simp [rangeP]; omega
theorem range_all (xs : List Ev) : (xs.filter (rangeP 21)).length + (xs.filter otherP).length = xs.length := by
  rw [← count_add (rangeP 21) otherP (fun _ => true) xs fun e _ => ?_]
  · simp
  constructor
  · show true = _
    rw [Bool.eq_iff_iff]; simp [rangeP, otherP]; omega
  · simp [rangeP, otherP]; omega
theorem tell_count (xs : List Ev) (core : Int) : (xs.filter (ofP 8 core)).length = ((xs.filter (tellP core)).map Ev.val).length + (xs.filter (toldP core)).length := by
  rw [List.length_map]
  refine count_add _ _ _ _ fun e _ => ?_
  constructor
  · rw [Bool.eq_iff_iff]; simp [ofP, tellP, toldP]; omega
  · simp [tellP, toldP]; omega
theorem of_all (xs : List Ev) : xs.filter (ofP 0 (-1)) = xs := by
  rw [List.filter_eq_self]; intro e _; simp [ofP]

theorem TraceOf_spec {a0 : Value} {core : Int} {xs : List Ev} (h0 : Sl encE 5 g a0 xs) {K : Cont} (hK : ∀ n', K (.bool true) g n') :
    AC bellowslaw17_TraceOf_id [a0, .int .i64 core] g n K := by
  refine ACalls.fold X0_mono ?_
  rw [← bellowslaw17_TraceOf_eq]
  simp only [bellowslaw17_TraceOf]
  refine h0.len ?_
  simp only [kBin_gtr, kSplit_b, decide_eq_true_eq, decide_eq_false_iff_not]
  refine ⟨fun _ => wakes_spec fun n' => aRet_of (Sub.refl _) (hK _), fun hx => ?_⟩
  have hx : xs.length ≤ 300 := by omega
  refine lfp_ind (fun m t g' n' => Sub g g' ∧ ∃ k : Int, m = (21 - k).toNat ∧ -1 ≤ k ∧ k ≤ 21 ∧ t 0 = a0 ∧ t 1 = .int .i64 core ∧ t 5 = .int .i64 ((xs.filter (rangeP k)).length : Nat) ∧ t 6 = .int .i64 k) ?_
    (m := 22) ⟨Sub.refl g, -1, rfl, by omega, by omega, rfl, rfl, ?_, rfl⟩
  · rintro I m t g1 n1 hI ⟨hs1, k, hm, hk1, hk2, t0, t1, t5, t6⟩
    have hx1 := h0.mono hs1
    have hrl := List.length_filter_le (rangeP k) xs
    have hol := List.length_filter_le (ofP k (-1)) xs
    simp only [bellowslaw17_TraceOf_l1, t0, t5, t6, kBin_leq, kSplit_b, decide_eq_true_eq, decide_eq_false_iff_not]
    refine ⟨fun hle => ?_, fun hgt => ?_⟩
    · have next : ∀ (t : Env) (g2 : G) (n1 : Nat), Sub g g2 → t 0 = a0 → t 1 = .int .i64 core → t 5 = .int .i64 ((xs.filter (rangeP (k + 1))).length : Nat) → t 6 = .int .i64 k → bellowslaw17_TraceOf_j2 AC K I t g2 n1 := by
        intro t g2 n1 hs t0 t1 t5 t6
        simp only [bellowslaw17_TraceOf_j2, t6, kBin_add]
        rw [wrap64_of (by omega) (by omega)]
        exact hI (21 - (k + 1)).toNat _ _ _ (by omega) ⟨hs, k + 1, rfl, by omega, by omega, t0, t1, t5, rfl⟩
      simp only [kBin_eql, kSplit_b, decide_eq_true_eq, decide_eq_false_iff_not]
      refine ⟨fun hk0 => ?_, fun hk0 => ?_⟩
      · subst hk0
        exact next _ _ _ hs1 t0 t1 (by rw [range_skip]; exact t5) t6
      · intro hn2
        have hs2 := (Sub.refl g1).new hn2 (some (.cells [] .exact))
        refine OwnS.append (OwnS.empty (g0 := g1)) hs2 (hx1.mono hs2) encE_cell (by decide) (by simp; omega) (by simp; omega) (fun v24 g3 n3 hs3 ho3 _ _ => ?_)
        refine Of_spec (xs := xs) ho3.sl (by omega) (fun v26 g4 n4 hs4 ho4 => ?_)
        have hs4' := hs3.trans hs4
        have hx4 := hx1.mono hs4'
        have hsl := ho4.sl
        have hpk : ∀ e ∈ xs.filter (ofP k (-1)), e.kind = k ∧ ofP k (-1) e = true := by
          intro e he
          have := (List.mem_filter.1 he).2
          refine ⟨?_, this⟩
          simpa [ofP, hk0] using this
        have hstep := range_step xs k hk1 hk0
        refine hsl.len ?_
        simp only [kBin_add]
        rw [wrap64_of (by omega) (by omega)]
        generalize hy : xs.filter (ofP k (-1)) = ys at *
        have hts : ∀ {tt : Env}, tt 5 = .int .i64 (((xs.filter (rangeP k)).length : Nat) + (ys.length : Nat) : Int) → tt 5 = .int .i64 ((xs.filter (rangeP (k + 1))).length : Nat) := by
          intro tt h; rw [h, hstep]; congr 1
        refine lfp_ind (fun m t g' n' => g' = g4 ∧ ∃ i a : Nat, m = ys.length - i ∧ i ≤ ys.length ∧ a ≤ xs.length ∧ (xs.drop a).filter (ofP k (-1)) = ys.drop i ∧ t 0 = a0 ∧ t 1 = .int .i64 core ∧ t 5 = .int .i64 ((xs.filter (rangeP (k + 1))).length : Nat) ∧ t 6 = .int .i64 k ∧ t 7 = v26 ∧ t 8 = .int .i64 a ∧ t 9 = .int .i64 i) ?_
          (m := ys.length) ⟨rfl, 0, 0, by simp, by simp, by simp, by simpa using hy, t0, t1, hts rfl, t6, rfl, rfl, rfl⟩
        rintro J m' t g5 n5 hJ ⟨rfl, i, a, hm', hi, ha, hf, t0, t1, t5, t6, t7, t8, t9⟩
        simp only [bellowslaw17_TraceOf_l3, t7, t9]
        refine hsl.len ?_
        simp only [kBin_lss, kSplit_b, decide_eq_true_eq, decide_eq_false_iff_not]
        refine ⟨fun hlt => ?_, fun hge => next _ _ _ (hs1.trans hs4') t0 t1 t5 t6⟩
        have hlt : i < ys.length := by omega
        have hye : ys[i]? = some ys[i] := List.getElem?_eq_getElem hlt
        generalize ys[i] = y at hye
        obtain ⟨hyk, hyp⟩ := hpk y (List.mem_of_getElem? hye)
        -- the search
        refine lfp_ind (fun m t g' n' => g' = g5 ∧ ∃ a : Nat, m = xs.length - a ∧ a ≤ xs.length ∧ (xs.drop a).filter (ofP k (-1)) = ys.drop i ∧ t 0 = a0 ∧ t 1 = .int .i64 core ∧ t 5 = .int .i64 ((xs.filter (rangeP (k + 1))).length : Nat) ∧ t 6 = .int .i64 k ∧ t 7 = v26 ∧ t 8 = .int .i64 a ∧ t 9 = .int .i64 i) ?_
          (m := xs.length - a) ⟨rfl, a, rfl, ha, hf, t0, t1, t5, t6, t7, t8, t9⟩
        rintro L m2 t g6 n6 hL ⟨rfl, a, hm2, ha, hf, t0, t1, t5, t6, t7, t8, t9⟩
        rw [drop_get hye] at hf
        have hal : a < xs.length := by
          rcases Nat.lt_or_ge a xs.length with h | h
          · exact h
          · rw [List.drop_eq_nil_of_le h] at hf; simp at hf
        have hxe : xs[a]? = some xs[a] := List.getElem?_eq_getElem hal
        generalize xs[a] = x at hxe
        rw [drop_get hxe] at hf
        simp only [bellowslaw17_TraceOf_l4, t0, t7, t8, t9]
        refine hx4.len ?_
        simp only [kBin_lss]
        refine kSplit_t (by simpa using hal) ?_
        refine hx4.idx encE_len hxe (fun l o ha => ?_)
        simp only [kPtr_p]
        refine ha.ldN rfl ?_
        refine hsl.idx encE_len hye (fun l o ha => ?_)
        simp only [kPtr_p]
        refine ha.ldN rfl (neE _ _ _ ?_)
        simp only [kBin_add, kSplit_b, decide_eq_true_eq, decide_eq_false_iff_not]
        refine ⟨fun hne => ?_, fun heq => ?_⟩
        · rw [wrapNat (by omega)]
          refine hL (xs.length - (a + 1)) _ _ _ (by omega) ⟨rfl, a + 1, rfl, by omega, ?_, t0, t1, t5, t6, t7, rfl, t9⟩
          rw [drop_get hye]
          by_cases hp : ofP k (-1) x = true
          · rw [List.filter_cons_of_pos hp] at hf
            exact absurd (List.cons.inj hf).1 hne
          · rw [List.filter_cons_of_neg hp] at hf
            exact hf
        · have heq : x = y := Classical.not_not.1 heq
          subst heq
          rw [List.filter_cons_of_pos hyp] at hf
          have hf' := (List.cons.inj hf).2
          unfold bellowslaw17_TraceOf_j5
          show kLen (t 0) _
          rw [t0]
          refine hx4.len ?_
          show kBin .int .eql (t 8) _ _
          rw [t8]
          simp only [kBin_eql]
          refine kSplit_f (by simp; omega) ?_
          show kIndexAddr (t 7) (t 9) _ _
          rw [t7, t9]
          refine hsl.idx encE_len hye (fun l o ha => ?_)
          simp only [kPtr_p]
          refine ha.ld (i := 0) rfl ?_
          show kBin .int .neq _ (t 6) _
          rw [t6]
          simp only [kBin_neq]
          refine kSplit_f (by simp [hyk]) ?_
          show kBin .int .add (t 8) _ _
          rw [t8]
          simp only [kBin_add]
          unfold bellowslaw17_TraceOf_j6
          show kBin .int .add (t 9) _ _
          rw [t9]
          simp only [kBin_add]
          rw [wrapNat (by omega), wrapNat (by omega)]
          exact hJ (ys.length - (i + 1)) _ _ _ (by omega) ⟨rfl, i + 1, a + 1, rfl, by omega, by omega, hf', t0, t1, t5, t6, t7, rfl, rfl⟩
    · have hk : k = 21 := by omega
      subst hk
      unfold bellowslaw17_TraceOf_j7
      refine lfp_ind (fun m t g' n' => g' = g1 ∧ ∃ i : Nat, m = xs.length - i ∧ i ≤ xs.length ∧ t 0 = a0 ∧ t 1 = .int .i64 core ∧ t 5 = .int .i64 ((xs.filter (rangeP 21)).length : Nat) ∧ t 10 = .int .i64 (((xs.take i).filter otherP).length : Nat) ∧ t 11 = .int .i64 i) ?_
        (m := xs.length) ⟨rfl, 0, by simp, by simp, t0, t1, t5, rfl, rfl⟩
      rintro J m' t g2 n2 hJ ⟨rfl, i, hm', hi, t0, t1, t5, t10, t11⟩
      simp only [bellowslaw17_TraceOf_l8, t0, t10, t11]
      refine hx1.len ?_
      simp only [kBin_lss, kSplit_b, decide_eq_true_eq, decide_eq_false_iff_not]
      refine ⟨fun hlt => ?_, fun hge => ?_⟩
      · have hlt : i < xs.length := by omega
        have he : xs[i]? = some xs[i] := List.getElem?_eq_getElem hlt
        generalize xs[i] = e at he
        have hcl := List.length_filter_le otherP (xs.take i)
        rw [List.length_take] at hcl
        have next : ∀ (t : Env) (n1 : Nat), t 0 = a0 → t 1 = .int .i64 core → t 5 = .int .i64 ((xs.filter (rangeP 21)).length : Nat) → t 10 = .int .i64 (((xs.take (i + 1)).filter otherP).length : Nat) → t 11 = .int .i64 i → bellowslaw17_TraceOf_j9 AC K J t g2 n1 := by
          intro t n1 t0 t1 t5 t10 t11
          simp only [bellowslaw17_TraceOf_j9, t11, kBin_add]
          rw [wrapNat (by omega)]
          exact hJ (xs.length - (i + 1)) _ _ _ (by omega) ⟨rfl, i + 1, rfl, by omega, t0, t1, t5, t10, rfl⟩
        have yes : otherP e = true → (Value.int .i64 (((xs.take i).filter otherP).length + 1 : Nat)) = .int .i64 (((xs.take (i + 1)).filter otherP).length : Nat) := by
          intro h; rw [take_add he]; simp [h]
        have no : otherP e = false → ((xs.take (i + 1)).filter otherP).length = ((xs.take i).filter otherP).length := by
          intro h; rw [take_add he]; simp [h]
        refine hx1.idx encE_len he (fun l o ha => ?_)
        simp only [kPtr_p]
        refine ha.ld (i := 0) rfl ?_
        simp only [kBin_lss, kBin_add, kSplit_b, decide_eq_true_eq, decide_eq_false_iff_not]
        rw [wrapNat (by omega)]
        refine ⟨fun h1 => next _ _ t0 t1 t5 (yes (by simp [otherP, h1])) t11, fun h1 => ?_⟩
        refine hx1.idx encE_len he (fun l o ha => ?_)
        simp only [kPtr_p]
        refine ha.ld (i := 0) rfl ?_
        simp only [kBin_eql, kBin_add, kSplit_b, decide_eq_true_eq, decide_eq_false_iff_not]
        refine ⟨fun h2 => next _ _ t0 t1 t5 (yes (by simp [otherP, h2])) t11, fun h2 => ?_⟩
        refine hx1.idx encE_len he (fun l o ha => ?_)
        simp only [kPtr_p]
        refine ha.ld (i := 0) rfl ?_
        simp only [kBin_gtr, kBin_add, kSplit_b, decide_eq_true_eq, decide_eq_false_iff_not]
        refine ⟨fun h3 => next _ _ t0 t1 t5 (yes (by simp [otherP, h3])) t11, fun h3 => next _ _ t0 t1 t5 ?_ t11⟩
        rw [no (by simp [otherP]; omega)]; exact t10
      · have hi' : i = xs.length := by omega
        subst hi'
        rw [List.take_length] at t10
        have hall := range_all xs
        have hcl := List.length_filter_le otherP xs
        unfold bellowslaw17_TraceOf_j10
        show kBin .int .add (t 5) (t 10) _
        rw [t5, t10]
        simp only [kBin_add]
        rw [wrap64_of (by omega) (by omega)]
        show kLen (t 0) _
        rw [t0]
        refine hx1.len ?_
        simp only [kBin_eql]
        refine kSplit_t (by simp; omega) ?_
        show AC _ [t 0, _, _] _ _ _
        rw [t0]
        refine Of_spec hx1 (by omega) (fun v107 g5 n5 hs5 ho5 => ?_)
        show AC _ [v107, t 0] _ _ _
        rw [t0]
        rw [of_all] at ho5
        refine Same_spec ho5.sl (hx1.mono hs5) (by omega) (fun n6 => ?_)
        refine kSplit_t (by simp) ?_
        show AC _ [t 0, _, t 1] _ _ _
        rw [t0, t1]
        refine Of_spec (hx1.mono hs5) (by omega) (fun v114 g7 n7 hs7 ho7 => ho7.sl.len ?_)
        show AC _ [t 0, t 1] _ _ _
        rw [t0, t1]
        refine Tells_spec (hx1.mono (hs5.trans hs7)) (by omega) (fun v118 g8 n8 hs8 ho8 => ho8.sl.len ?_)
        show AC _ [t 0, t 1] _ _ _
        rw [t0, t1]
        refine told_spec (hx1.mono (hs5.trans (hs7.trans hs8))) (by omega) (fun n9 => ?_)
        have htc := tell_count xs core
        have hl1 := List.length_filter_le (ofP 8 core) xs
        simp only [kBin_add, kBin_eql]
        rw [wrap64_of (by omega) (by omega)]
        refine kSplit_t (decide_eq_true (by omega)) ?_
        exact wakes_spec fun n10 => aRet_of (hs1.trans (hs5.trans (hs7.trans hs8))) (hK _)
  · show Value.int .i64 0 = _
    have : xs.filter (rangeP (-1)) = [] := by rw [List.filter_eq_nil_iff]; intro e _; simp [rangeP]; omega
    rw [this]; rfl
end Go.Proofs.Ytncodeibkmekmaa.Gen
