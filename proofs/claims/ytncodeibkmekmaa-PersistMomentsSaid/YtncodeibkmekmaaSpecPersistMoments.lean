import Derived.Test.YtncodeibkmekmaaGenPersistMoments
/- What the functions come to. -/
set_option linter.all false
set_option linter.deprecated false
namespace Go.Proofs.Ytncodeibkmekmaa.Gen
open Go Go.Proofs.Ytncodeibkmekmaa.Abs Go.RowKit
variable {g : G} {n : Nat}
abbrev AC : CT := ACalls Try.prog X0

/-- events -/
structure Ev where
  kind : Int
  core : Int
  line : Int
  word : Int
  val : Int
  deriving DecidableEq
def encE (e : Ev) : List Value := [.int .i64 e.kind, .int .i64 e.core, .int .i64 e.line, .int .i64 e.word, .int .u64 e.val]
theorem encE_len (e : Ev) : (encE e).length = 5 := rfl
theorem encE_cell (e : Ev) : ∀ v ∈ encE e, isCell v = true := by simp [encE, isCell]

theorem val_spec (e : Ev) {K : Cont} (hK : ∀ n', K (.int .u64 e.val) g n') : AC trace_val_id [.agg (encE e).toArray] g n K := by
  refine ACalls.fold X0_mono ?_
  rw [← trace_val_eq]
  simp only [trace_val, kAgg_a]
  intro hn
  refine kLd_of (upd_same _ _ _) rfl ?_
  exact aRet_of ((Sub.refl g).new hn _) (hK _)

theorem itself_spec (e : Ev) {K : Cont} (hK : ∀ n', K (.agg (encE e).toArray) g n') : AC trace_itself_id [.agg (encE e).toArray] g n K := by
  refine ACalls.fold X0_mono ?_
  rw [← trace_itself_eq]
  simp only [trace_itself, kAgg_a]
  intro hn hn'
  have hs : Sub g (upd g n (some (.cells (encE e) .exact))) := (Sub.refl g).new hn _
  have e1 := upd_live (upd_same g n (some (.cells (encE e) .exact))) hn' (some (.cells [(.int .i64 0), (.int .i64 0), (.int .i64 0), (.int .i64 0), (.int .u64 0)] .exact))
  refine kLdN_of e1 (by simp [encE]) ?_
  refine ⟨rfl, kStN_of (upd_same _ _ _) rfl (by simp [encE]) (by simp [encE, isCell]) ?_⟩
  refine kLdN_of (upd_same _ _ _) (by simp [encE, splice]) ?_
  refine aRet_of (((hs.new hn' _).upd_fresh _ (hs.none hn'))) (hK _)


theorem chosenE_spec {v such conv : Value} (p : Ev → Bool) (f : Ev → Ev) {xs : List Ev} (hv : Sl encE 5 g v xs)
    (hsuch : ∀ (g' : G) (n' : Nat) (e : Ev) (K : Cont), Sub g g' → (∀ n, K (.bool (p e)) g' n) → kCall AC such [.agg (encE e).toArray] g' n' K)
    (has : ∀ (g' : G) (n' : Nat) (e : Ev) (K : Cont), Sub g g' → (∀ n, K ((fun e : Ev => Value.agg (encE e).toArray) (f e)) g' n) → kCall AC conv [.agg (encE e).toArray] g' n' K)
    (hlen : xs.length < 1000000) {K : Cont} (hK : ∀ v' g' n', Sub g g' → OwnS encE 5 g g' v' ((xs.filter p).map f) → K v' g' n') : AC trace_chosen_api_Event_api_Event_id [v, such, conv] g n K := by
  refine ACalls.fold X0_mono ?_
  rw [← trace_chosen_api_Event_api_Event_eq]
  simp only [trace_chosen_api_Event_api_Event]
  refine hv.len ?_
  refine lfp_ind (fun m t g' n' => ∃ i, m = xs.length - i ∧ i ≤ xs.length ∧ t 1 = such ∧ t 2 = conv ∧ t 10 = v ∧ t 11 = .int .i64 xs.length ∧ t 12 = .int .i64 i ∧ Sub g g' ∧ OwnS encE 5 g g' (t 7) (((xs.take i).filter p).map f)) ?_
    (m := xs.length) ⟨0, by simp, by simp, rfl, rfl, rfl, rfl, rfl, Sub.refl g, OwnS.nil⟩
  rintro I m t g1 n1 hI ⟨i, hm, hi, h1, h2, h10, h11, h12, hs, ho⟩
  simp only [trace_chosen_api_Event_api_Event_l1, h1, h2, h10, h11, h12, kBin_lss, kSplit_b]
  refine ⟨fun hlt => ?_, fun hge => ?_⟩
  · have hlt : i < xs.length := by simpa using hlt
    have he : xs[i]? = some xs[i] := List.getElem?_eq_getElem hlt
    generalize xs[i] = e at he
    have htk : xs.take (i + 1) = xs.take i ++ [e] := by rw [List.take_add_one, he]; rfl
    refine (hv.mono hs).idx encE_len he (fun l o ha => ?_)
    simp only [kPtr_p]
    refine ha.ldN rfl ?_
    intro hn1
    simp only [kAgg_a]
    refine ⟨rfl, kStN_of (upd_same _ _ _) rfl (by simp [encE]) (encE_cell e) ?_⟩
    have hs3 : Sub g1 _ := (((Sub.refl g1).new hn1 (some (.cells [(.int .i64 0), (.int .i64 0), (.int .i64 0), (.int .i64 0), (.int .u64 0)] .exact))).upd_fresh (some (.cells (encE e) .exact)) hn1)
    have hl3 : (upd (upd g1 n1 (some (.cells [(.int .i64 0), (.int .i64 0), (.int .i64 0), (.int .i64 0), (.int .u64 0)] .exact))) n1 (some (.cells (encE e) .exact))) n1 = some (.cells (encE e) .exact) := upd_same _ _ _
    refine kLdN_of (upd_same _ _ _) (by simp [encE, splice]) ?_
    refine hsuch _ _ e _ (hs.trans hs3) (fun n2 => ?_)
    simp only [kSplit_b]
    have hw : IntKind.i64.wrap ((i : Int) + 1) = ((i + 1 : Nat) : Int) := wrapNat (by omega)
    refine ⟨fun hp => ?_, fun hp => ?_⟩
    · refine kLdN_of hl3 (by simp [encE]) ?_
      refine has _ _ e _ (hs.trans hs3) (fun n3 => ?_)
      refine ⟨rfl, by decide, ?_⟩
      intro hn4
      have hs5 := hs3.new hn4 (some (.cells (encE (f e)) .exact))
      have hcnt : ((xs.take i).filter p).length ≤ i := Nat.le_trans (List.length_filter_le _ _) (by rw [List.length_take]; omega)
      refine OwnS.append (ho.mono hs5) (hs.trans hs5) (Sl.one (x := f e) (encE_len _) (upd_same _ _ _)) encE_cell (by decide) (by simp; omega) (by simp; omega) (fun v' g' n' hs' ho' _ _ => ?_)
      simp only [kBin_add, hw]
      refine hI (xs.length - (i + 1)) _ _ _ (by omega) ⟨i + 1, rfl, by omega, h1, h2, h10, h11, rfl, hs', ?_⟩
      have e2 : ((xs.take (i + 1)).filter p).map f = ((xs.take i).filter p).map f ++ [f e] := by simp [htk, hp]
      rw [e2]; exact ho'
    · simp only [kBin_add, hw]
      refine hI (xs.length - (i + 1)) _ _ _ (by omega) ⟨i + 1, rfl, by omega, h1, h2, h10, h11, rfl, hs.trans hs3, ?_⟩
      have e2 : ((xs.take (i + 1)).filter p).map f = ((xs.take i).filter p).map f := by simp [htk, hp]
      rw [e2]; exact ho.mono hs3
  · have hge : i = xs.length := by have : ¬ i < xs.length := by simpa using hge
                                   omega
    subst hge
    rw [List.take_length] at ho
    exact aRet_of (Sub.refl _) (hK _ _ _ hs ho)

theorem chosenW_spec {v such conv : Value} (p : Ev → Bool) (f : Ev → Int) {xs : List Ev} (hv : Sl encE 5 g v xs)
    (hsuch : ∀ (g' : G) (n' : Nat) (e : Ev) (K : Cont), Sub g g' → (∀ n, K (.bool (p e)) g' n) → kCall AC such [.agg (encE e).toArray] g' n' K)
    (has : ∀ (g' : G) (n' : Nat) (e : Ev) (K : Cont), Sub g g' → (∀ n, K ((fun e : Int => Value.int .u64 e) (f e)) g' n) → kCall AC conv [.agg (encE e).toArray] g' n' K)
    (hlen : xs.length < 1000000) {K : Cont} (hK : ∀ v' g' n', Sub g g' → OwnS encW 1 g g' v' ((xs.filter p).map f) → K v' g' n') : AC trace_chosen_api_Event_uint64_id [v, such, conv] g n K := by
  refine ACalls.fold X0_mono ?_
  rw [← trace_chosen_api_Event_uint64_eq]
  simp only [trace_chosen_api_Event_uint64]
  refine hv.len ?_
  refine lfp_ind (fun m t g' n' => ∃ i, m = xs.length - i ∧ i ≤ xs.length ∧ t 1 = such ∧ t 2 = conv ∧ t 10 = v ∧ t 11 = .int .i64 xs.length ∧ t 12 = .int .i64 i ∧ Sub g g' ∧ OwnS encW 1 g g' (t 7) (((xs.take i).filter p).map f)) ?_
    (m := xs.length) ⟨0, by simp, by simp, rfl, rfl, rfl, rfl, rfl, Sub.refl g, OwnS.nil⟩
  rintro I m t g1 n1 hI ⟨i, hm, hi, h1, h2, h10, h11, h12, hs, ho⟩
  simp only [trace_chosen_api_Event_uint64_l1, h1, h2, h10, h11, h12, kBin_lss, kSplit_b]
  refine ⟨fun hlt => ?_, fun hge => ?_⟩
  · have hlt : i < xs.length := by simpa using hlt
    have he : xs[i]? = some xs[i] := List.getElem?_eq_getElem hlt
    generalize xs[i] = e at he
    have htk : xs.take (i + 1) = xs.take i ++ [e] := by rw [List.take_add_one, he]; rfl
    refine (hv.mono hs).idx encE_len he (fun l o ha => ?_)
    simp only [kPtr_p]
    refine ha.ldN rfl ?_
    intro hn1
    simp only [kAgg_a]
    refine ⟨rfl, kStN_of (upd_same _ _ _) rfl (by simp [encE]) (encE_cell e) ?_⟩
    have hs3 : Sub g1 _ := (((Sub.refl g1).new hn1 (some (.cells [(.int .i64 0), (.int .i64 0), (.int .i64 0), (.int .i64 0), (.int .u64 0)] .exact))).upd_fresh (some (.cells (encE e) .exact)) hn1)
    have hl3 : (upd (upd g1 n1 (some (.cells [(.int .i64 0), (.int .i64 0), (.int .i64 0), (.int .i64 0), (.int .u64 0)] .exact))) n1 (some (.cells (encE e) .exact))) n1 = some (.cells (encE e) .exact) := upd_same _ _ _
    refine kLdN_of (upd_same _ _ _) (by simp [encE, splice]) ?_
    refine hsuch _ _ e _ (hs.trans hs3) (fun n2 => ?_)
    simp only [kSplit_b]
    have hw : IntKind.i64.wrap ((i : Int) + 1) = ((i + 1 : Nat) : Int) := wrapNat (by omega)
    refine ⟨fun hp => ?_, fun hp => ?_⟩
    · refine kLdN_of hl3 (by simp [encE]) ?_
      refine has _ _ e _ (hs.trans hs3) (fun n3 => ?_)
      refine ⟨rfl, by decide, ?_⟩
      intro hn4
      have hs5 := hs3.new hn4 (some (.cells (encW (f e)) .exact))
      have hcnt : ((xs.take i).filter p).length ≤ i := Nat.le_trans (List.length_filter_le _ _) (by rw [List.length_take]; omega)
      refine OwnS.append (ho.mono hs5) (hs.trans hs5) (Sl.one (x := f e) (encW_len _) (upd_same _ _ _)) encW_cell (by decide) (by simp; omega) (by simp; omega) (fun v' g' n' hs' ho' _ _ => ?_)
      simp only [kBin_add, hw]
      refine hI (xs.length - (i + 1)) _ _ _ (by omega) ⟨i + 1, rfl, by omega, h1, h2, h10, h11, rfl, hs', ?_⟩
      have e2 : ((xs.take (i + 1)).filter p).map f = ((xs.take i).filter p).map f ++ [f e] := by simp [htk, hp]
      rw [e2]; exact ho'
    · simp only [kBin_add, hw]
      refine hI (xs.length - (i + 1)) _ _ _ (by omega) ⟨i + 1, rfl, by omega, h1, h2, h10, h11, rfl, hs.trans hs3, ?_⟩
      have e2 : ((xs.take (i + 1)).filter p).map f = ((xs.take i).filter p).map f := by simp [htk, hp]
      rw [e2]; exact ho.mono hs3
  · have hge : i = xs.length := by have : ¬ i < xs.length := by simpa using hge
                                   omega
    subst hge
    rw [List.take_length] at ho
    exact aRet_of (Sub.refl _) (hK _ _ _ hs ho)
end Go.Proofs.Ytncodeibkmekmaa.Gen

namespace Go.Proofs.Ytncodeibkmekmaa.Gen
open Go Go.Proofs.Ytncodeibkmekmaa.Abs Go.RowKit
variable {g : G} {n : Nat}

theorem of1_spec {e : Ev} {lk lc : Nat} {kind core : Int} {bk bk' : BK} (hk : g lk = some (.cells [.int .i64 kind] bk)) (hc : g lc = some (.cells [.int .i64 core] bk')) {K : Cont}
    (hK : ∀ n', K (.bool ((decide (kind = 0) || decide (e.kind = kind)) && (decide (core = -1) || decide (e.core = core)))) g n') : AC trace_Of_1_id [.agg (encE e).toArray, ptr lk 0, ptr lc 0] g n K := by
  refine ACalls.fold X0_mono ?_
  rw [← trace_Of_1_eq]
  simp only [trace_Of_1, kAgg_a, kPtr_p]
  intro hn
  have hs : Sub g _ := (Sub.refl g).new hn (some (.cells (encE e) .exact))
  have h1 := upd_same g n (some (.cells (encE e) .exact))
  have fin : ∀ b n', b = ((decide (kind = 0) || decide (e.kind = kind)) && (decide (core = -1) || decide (e.core = core))) → aRet K (.bool b) (upd g n (some (.cells (encE e) .exact))) n' := fun b n' hb => aRet_of hs (hb ▸ hK _)
  refine kLd_of (hs.live hk) rfl ?_
  simp only [kBin_eql, kSplit_b, decide_eq_true_eq, decide_eq_false_iff_not]
  have tail : ∀ b, b = (decide (kind = 0) || decide (e.kind = kind)) → b = true → kLd (upd g n (some (.cells (encE e) .exact))) lc 0 fun v14 => kBin .int .eql v14 (.int .i64 (-1)) fun v15 => kSplit v15 (aRet K (.bool true) (upd g n (some (.cells (encE e) .exact))) (n + 1))
      (kLd (upd g n (some (.cells (encE e) .exact))) n (0 + 1) fun v18 => kLd (upd g n (some (.cells (encE e) .exact))) lc 0 fun v19 => kBin .int .eql v18 v19 fun v20 => aRet K v20 (upd g n (some (.cells (encE e) .exact))) (n + 1)) := by
    intro b hb hbt
    refine kLd_of (hs.live hc) rfl ?_
    simp only [kBin_eql, kSplit_b, decide_eq_true_eq, decide_eq_false_iff_not]
    refine ⟨fun h => fin _ _ (by rw [← hb, hbt]; simp [h]), fun h => ?_⟩
    refine kLd_of h1 rfl ?_
    refine kLd_of (hs.live hc) rfl ?_
    simp only [kBin_eql]
    exact fin _ _ (by rw [← hb, hbt]; simp [h])
  refine ⟨fun h => tail _ rfl (by simp [h]), fun h => ?_⟩
  refine kLd_of h1 rfl ?_
  refine kLd_of (hs.live hk) rfl ?_
  simp only [kBin_eql, kSplit_b, decide_eq_true_eq, decide_eq_false_iff_not]
  refine ⟨fun h => tail _ rfl (by simp [h]), fun h' => fin _ _ (by simp [h, h'])⟩

theorem tells1_spec {e : Ev} {lc : Nat} {core : Int} {bk' : BK} (hc : g lc = some (.cells [.int .i64 core] bk')) {K : Cont}
    (hK : ∀ n', K (.bool (decide (e.kind = 8) && decide (e.core = core))) g n') : AC trace_Tells_1_id [.agg (encE e).toArray, ptr lc 0] g n K := by
  refine ACalls.fold X0_mono ?_
  rw [← trace_Tells_1_eq]
  simp only [trace_Tells_1, kAgg_a, kPtr_p]
  intro hn
  have hs : Sub g _ := (Sub.refl g).new hn (some (.cells (encE e) .exact))
  have h1 := upd_same g n (some (.cells (encE e) .exact))
  refine kLd_of h1 rfl ?_
  simp only [kBin_eql, kSplit_b, decide_eq_true_eq, decide_eq_false_iff_not]
  refine ⟨fun h => ?_, fun h => aRet_of hs (by simpa [h] using hK _)⟩
  refine kLd_of h1 rfl ?_
  refine kLd_of (hs.live hc) rfl ?_
  simp only [kBin_eql]
  exact aRet_of hs (by simpa [h] using hK _)

theorem stores1_spec {e : Ev} {ll lw : Nat} {line word : Int} {bk bk' : BK} (hl : g ll = some (.cells [.int .i64 line] bk)) (hw : g lw = some (.cells [.int .i64 word] bk')) {K : Cont}
    (hK : ∀ n', K (.bool (decide (e.kind = 3) && (decide (e.line = line) && decide (e.word = word)))) g n') : AC trace_Stores_1_id [.agg (encE e).toArray, ptr ll 0, ptr lw 0] g n K := by
  refine ACalls.fold X0_mono ?_
  rw [← trace_Stores_1_eq]
  simp only [trace_Stores_1, kAgg_a, kPtr_p]
  intro hn
  have hs : Sub g _ := (Sub.refl g).new hn (some (.cells (encE e) .exact))
  have h1 := upd_same g n (some (.cells (encE e) .exact))
  refine kLd_of h1 rfl ?_
  simp only [kBin_eql, kSplit_b, decide_eq_true_eq, decide_eq_false_iff_not]
  refine ⟨fun h => ?_, fun h => aRet_of hs (by simpa [h] using hK _)⟩
  refine kLd_of h1 rfl ?_
  refine kLd_of (hs.live hl) rfl ?_
  simp only [kBin_eql, kSplit_b, decide_eq_true_eq, decide_eq_false_iff_not]
  refine ⟨fun h2 => ?_, fun h2 => aRet_of hs (by simpa [h, h2] using hK _)⟩
  refine kLd_of h1 rfl ?_
  refine kLd_of (hs.live hw) rfl ?_
  simp only [kBin_eql]
  exact aRet_of hs (by simpa [h, h2] using hK _)

def ofP (kind core : Int) (e : Ev) : Bool := (decide (kind = 0) || decide (e.kind = kind)) && (decide (core = -1) || decide (e.core = core))
theorem Of_spec {v : Value} {xs : List Ev} {kind core : Int} (hv : Sl encE 5 g v xs) (hlen : xs.length < 1000000) {K : Cont}
    (hK : ∀ v' g' n', Sub g g' → OwnS encE 5 g g' v' (xs.filter (ofP kind core)) → K v' g' n') : AC trace_Of_id [v, .int .i64 kind, .int .i64 core] g n K := by
  refine ACalls.fold X0_mono ?_
  rw [← trace_Of_eq]
  simp only [trace_Of]
  refine ⟨rfl, fun hn => ⟨rfl, fun hn2 => ?_⟩⟩
  have hs1 : Sub g _ := (Sub.refl g).new hn (some (.cells [.int .i64 kind] .exact))
  have hs2 := hs1.new hn2 (some (.cells [.int .i64 core] .exact))
  have hk := upd_live (upd_same g n (some (.cells [.int .i64 kind] .exact))) hn2 (some (.cells [.int .i64 core] .exact))
  have hc := upd_same (upd g n (some (.cells [.int .i64 kind] .exact))) (n + 1) (some (.cells [.int .i64 core] .exact))
  refine chosenE_spec (ofP kind core) (fun e => e) (hv.mono hs2) ?_ ?_ hlen ?_
  · intro g' n' e K hs hK
    exact of1_spec (hs.live hk) (hs.live hc) hK
  · intro g' n' e K hs hK
    exact itself_spec e hK
  · intro v' g' n' hs ho
    refine aRet_of (Sub.refl _) (hK _ _ _ (hs2.trans hs) ?_)
    rw [List.map_id'] at ho
    exact ho.base hs2

def tellP (core : Int) (e : Ev) : Bool := decide (e.kind = 8) && decide (e.core = core)
theorem Tells_spec {v : Value} {xs : List Ev} {core : Int} (hv : Sl encE 5 g v xs) (hlen : xs.length < 1000000) {K : Cont}
    (hK : ∀ v' g' n', Sub g g' → OwnS encW 1 g g' v' ((xs.filter (tellP core)).map Ev.val) → K v' g' n') : AC trace_Tells_id [v, .int .i64 core] g n K := by
  refine ACalls.fold X0_mono ?_
  rw [← trace_Tells_eq]
  simp only [trace_Tells]
  refine ⟨rfl, fun hn => ?_⟩
  have hs1 : Sub g _ := (Sub.refl g).new hn (some (.cells [.int .i64 core] .exact))
  have hc := upd_same g n (some (.cells [.int .i64 core] .exact))
  refine chosenW_spec (tellP core) Ev.val (hv.mono hs1) ?_ ?_ hlen ?_
  · intro g' n' e K hs hK
    exact tells1_spec (hs.live hc) hK
  · intro g' n' e K hs hK
    exact val_spec e hK
  · intro v' g' n' hs ho
    exact aRet_of (Sub.refl _) (hK _ _ _ (hs1.trans hs) (ho.base hs1))

def storeP (line word : Int) (e : Ev) : Bool := decide (e.kind = 3) && (decide (e.line = line) && decide (e.word = word))
theorem Stores_spec {v : Value} {xs : List Ev} {line word : Int} (hv : Sl encE 5 g v xs) (hlen : xs.length < 1000000) {K : Cont}
    (hK : ∀ v' g' n', Sub g g' → OwnS encW 1 g g' v' ((xs.filter (storeP line word)).map Ev.val) → K v' g' n') : AC trace_Stores_id [v, .int .i64 line, .int .i64 word] g n K := by
  refine ACalls.fold X0_mono ?_
  rw [← trace_Stores_eq]
  simp only [trace_Stores]
  refine ⟨rfl, fun hn => ⟨rfl, fun hn2 => ?_⟩⟩
  have hs1 : Sub g _ := (Sub.refl g).new hn (some (.cells [.int .i64 line] .exact))
  have hs2 := hs1.new hn2 (some (.cells [.int .i64 word] .exact))
  have hk := upd_live (upd_same g n (some (.cells [.int .i64 line] .exact))) hn2 (some (.cells [.int .i64 word] .exact))
  have hc := upd_same (upd g n (some (.cells [.int .i64 line] .exact))) (n + 1) (some (.cells [.int .i64 word] .exact))
  refine chosenW_spec (storeP line word) Ev.val (hv.mono hs2) ?_ ?_ hlen ?_
  · intro g' n' e K hs hK
    exact stores1_spec (hs.live hk) (hs.live hc) hK
  · intro g' n' e K hs hK
    exact val_spec e hK
  · intro v' g' n' hs ho
    exact aRet_of (Sub.refl _) (hK _ _ _ (hs2.trans hs) (ho.base hs2))

theorem Words_spec {v w : Value} {xs ys : List Int} (hv : Sl encW 1 g v xs) (hw : Sl encW 1 g w ys) (hlen : xs.length < 1000000) {K : Cont}
    (hK : ∀ n', K (.bool (decide (xs = ys))) g n') : AC bellowskeep_Words_id [v, w] g n K := by
  refine ACalls.fold X0_mono ?_
  rw [← bellowskeep_Words_eq]
  simp only [bellowskeep_Words]
  refine hv.len (hw.len ?_)
  simp only [kBin_neq, kSplit_b, decide_eq_true_eq, decide_eq_false_iff_not]
  refine ⟨fun h => aRet_of (Sub.refl _) ?_, fun h => ?_⟩
  · have : xs ≠ ys := fun e => h (by rw [e])
    simpa [this] using hK n
  have hl : xs.length = ys.length := by omega
  refine lfp_ind (fun m t g' n' => g' = g ∧ ∃ i : Nat, m = xs.length - i ∧ i ≤ xs.length ∧ t 0 = v ∧ t 1 = w ∧ t 5 = .int .i64 i ∧ xs.take i = ys.take i) ?_
    (m := xs.length) ⟨rfl, 0, by simp, by simp, rfl, rfl, rfl, rfl⟩
  rintro I m t g1 n1 hI ⟨rfl, i, hm, hi, h0, h1, h5, hp⟩
  simp only [bellowskeep_Words_l1, h0, h1, h5]
  refine hv.len ?_
  simp only [kBin_lss, kSplit_b, decide_eq_true_eq, decide_eq_false_iff_not]
  refine ⟨fun hlt => ?_, fun hge => ?_⟩
  · have hlt : i < xs.length := by omega
    refine hv.idx encW_len (List.getElem?_eq_getElem hlt) (fun l o ha => ?_)
    simp only [kPtr_p]
    refine ha.ld (i := 0) rfl ?_
    refine hw.idx encW_len (List.getElem?_eq_getElem (hl ▸ hlt)) (fun l o ha => ?_)
    simp only [kPtr_p]
    refine ha.ld (i := 0) rfl ?_
    simp only [kBin_neq, kSplit_b, decide_eq_true_eq, decide_eq_false_iff_not, kBin_add]
    refine ⟨fun h => aRet_of (Sub.refl _) ?_, fun h => ?_⟩
    · have : xs ≠ ys := fun e => h (by subst e; rfl)
      simpa [this] using hK n1
    · rw [wrapNat (by omega)]
      refine hI (xs.length - (i + 1)) _ _ _ (by omega) ⟨rfl, i + 1, rfl, by omega, h0, h1, rfl, ?_⟩
      rw [List.take_add_one, List.take_add_one, List.getElem?_eq_getElem hlt, List.getElem?_eq_getElem (hl ▸ hlt), hp]
      have : xs[i] = ys[i] := Classical.byContradiction h
      simp [this]
  · have : i = xs.length := by omega
    subst this
    rw [List.take_length, hl, List.take_length] at hp
    exact aRet_of (Sub.refl _) (by simpa [hp] using hK n1)

theorem Equal_spec {v w : Value} {xs ys : List Ev} (hv : Sl encE 5 g v xs) (hw : Sl encE 5 g w ys) (hlen : xs.length < 1000000) {K : Cont}
    (hK : ∀ n', K (.bool (decide (xs = ys))) g n') : AC slices_Equal_api_Event_api_Event_id [v, w] g n K := by
  refine ACalls.fold X0_mono ?_
  rw [← slices_Equal_api_Event_api_Event_eq]
  simp only [slices_Equal_api_Event_api_Event]
  refine hv.len (hw.len ?_)
  simp only [kBin_neq, kSplit_b, decide_eq_true_eq, decide_eq_false_iff_not]
  refine ⟨fun h => aRet_of (Sub.refl _) ?_, fun h => hv.len ?_⟩
  · have : xs ≠ ys := fun e => h (by rw [e])
    simpa [this] using hK n
  have hl : xs.length = ys.length := by omega
  refine lfp_ind (fun m t g' n' => g' = g ∧ ∃ i : Nat, m = xs.length - i ∧ i ≤ xs.length ∧ t 0 = v ∧ t 1 = w ∧ t 12 = .int .i64 xs.length ∧ t 13 = .int .i64 i ∧ xs.take i = ys.take i) ?_
    (m := xs.length) ⟨rfl, 0, by simp, by simp, rfl, rfl, rfl, rfl, rfl⟩
  rintro I m t g1 n1 hI ⟨rfl, i, hm, hi, h0, h1, h12, h13, hp⟩
  simp only [slices_Equal_api_Event_api_Event_l1, h0, h1, h12, h13]
  simp only [kBin_lss, kSplit_b, decide_eq_true_eq, decide_eq_false_iff_not]
  refine ⟨fun hlt => ?_, fun hge => ?_⟩
  · have hlt : i < xs.length := by omega
    refine hv.idx encE_len (List.getElem?_eq_getElem hlt) (fun l o ha => ?_)
    simp only [kPtr_p]
    refine ha.ldN rfl ?_
    refine hw.idx encE_len (List.getElem?_eq_getElem (hl ▸ hlt)) (fun l o ha => ?_)
    simp only [kPtr_p]
    refine ha.ldN rfl ?_
    have hne : ∀ (a b : Ev) (K : Value → Prop), K (.bool (decide (a ≠ b))) → kBin (.agg [.i, .i, .i, .i, .i]) .neq (.agg (encE a).toArray) (.agg (encE b).toArray) K := by
      intro a b K h
      have e : (!(a.kind == b.kind && (a.core == b.core && (a.line == b.line && (a.word == b.word && (a.val == b.val && true)))))) = decide (a ≠ b) := by
        rw [Bool.eq_iff_iff]; cases a; cases b; simp [Ev.mk.injEq]
      show K (.bool _)
      rw [← e] at h
      exact h
    refine hne _ _ _ ?_
    simp only [kBin_neq, kSplit_b, decide_eq_true_eq, decide_eq_false_iff_not, kBin_add]
    refine ⟨fun h => aRet_of (Sub.refl _) ?_, fun h => ?_⟩
    · have : xs ≠ ys := fun e => h (by subst e; rfl)
      simpa [this] using hK n1
    · rw [wrapNat (by omega)]
      refine hI (xs.length - (i + 1)) _ _ _ (by omega) ⟨rfl, i + 1, rfl, by omega, h0, h1, h12, rfl, ?_⟩
      rw [List.take_add_one, List.take_add_one, List.getElem?_eq_getElem hlt, List.getElem?_eq_getElem (hl ▸ hlt), hp]
      have : xs[i] = ys[i] := Classical.byContradiction h
      simp [this]
  · have : i = xs.length := by omega
    subst this
    rw [List.take_length, hl, List.take_length] at hp
    exact aRet_of (Sub.refl _) (by simpa [hp] using hK n1)

theorem Same_spec {v w : Value} {xs ys : List Ev} (hv : Sl encE 5 g v xs) (hw : Sl encE 5 g w ys) (hlen : xs.length < 1000000) {K : Cont}
    (hK : ∀ n', K (.bool (decide (xs = ys))) g n') : AC trace_Same_id [v, w] g n K := by
  refine ACalls.fold X0_mono ?_
  rw [← trace_Same_eq]
  simp only [trace_Same]
  exact Equal_spec hv hw hlen fun n' => aRet_of (Sub.refl _) (hK _)
end Go.Proofs.Ytncodeibkmekmaa.Gen

namespace Go.Proofs.Ytncodeibkmekmaa.Gen
open Go Go.Proofs.Ytncodeibkmekmaa.Abs Go.RowKit
variable {g : G} {n : Nat}

theorem Sub_of_live {g' g : G} (h : ∀ l b, g' l = some b → g l = some b) : Sub g' g := fun l => by
  cases e : g' l with
  | none => exact .inl rfl
  | some b => exact .inr (h l b e).symm
theorem kIndexAddr_s {l o m c z : Nat} {k : IntKind} {j : Int} {K : Value → Prop} (h0 : 0 ≤ j) (h1 : j < m) (kk : K (ptr l (o + j.toNat * z))) : kIndexAddr (.slice (some ⟨l, o, none⟩) m c) (.int k j) z K := ⟨h0, h1, kk⟩

def cutStep (s : List (List Ev) × List Ev) (e : Ev) : List (List Ev) × List Ev := if e.kind = 11 then (s.1 ++ [s.2], []) else (s.1, s.2 ++ [e])
def cutP (l : List Ev) : List (List Ev) × List Ev := l.foldl cutStep ([], [])
def cutF (l : List Ev) : List (List Ev) := (cutP l).1 ++ [(cutP l).2]

/-- a slice of slices of events -/
def Parts (g : G) (v : Value) (ps : List (List Ev)) : Prop := ∃ cs, Rd g v 1 ps.length cs ∧ ∀ (j : Nat) (p : List Ev), ps[j]? = some p → ∃ c, cs[j]? = some c ∧ Sl encE 5 g c p
theorem Parts.mono {g g' : G} {v : Value} {ps : List (List Ev)} (h : Parts g v ps) (hs : Sub g g') : Parts g' v ps := by
  obtain ⟨cs, h1, h2⟩ := h
  exact ⟨cs, h1.mono hs, fun j p hp => by obtain ⟨c, hc, hl⟩ := h2 j p hp; exact ⟨c, hc, hl.mono hs⟩⟩

theorem own_cell {α : Type} {enc : α → List Value} {z : Nat} {g0 : G} {v : Value} {xs : List α} (h : OwnS enc z g0 g v xs) : isCell v = true := by
  rcases h with ⟨_, _, a, rfl, _⟩ | ⟨l, c, bk, rfl, _⟩ <;> rfl

theorem Cut_spec {v : Value} {xs : List Ev} (hv : Sl encE 5 g v xs) (hlen : xs.length < 1000000) {K : Cont}
    (hK : ∀ v' g' n', Sub g g' → Parts g' v' (cutF xs) → K v' g' n') : AC trace_Cut_id [v] g n K := by
  refine ACalls.fold X0_mono ?_
  rw [← trace_Cut_eq]
  simp only [trace_Cut]
  refine ⟨rfl, by decide, ?_⟩
  intro hn
  refine hv.len ?_
  have hs0 : Sub g (upd g n (some (.cells [.slice none 0 0] .exact))) := (Sub.refl g).new hn _
  refine lfp_ind (fun m t g1 n1 => ∃ (i : Nat) (qs : List (List Ev)) (q : List Ev) (gb : G) (ds : List Value) (d : Value), m = xs.length - i ∧ i ≤ xs.length ∧ t 8 = v ∧ t 9 = .int .i64 xs.length ∧ t 10 = .int .i64 i ∧
      cutP (xs.take i) = (qs, q) ∧ Sub g gb ∧ Sub gb g1 ∧ Own gb g1 (t 3) 1 (qs.length + 1) (ds ++ [d]) ∧ ds.length = qs.length ∧ (∀ (j : Nat) (p : List Ev), qs[j]? = some p → ∃ c, ds[j]? = some c ∧ Sl encE 5 gb c p) ∧
      OwnS encE 5 gb g1 d q ∧ (∀ l, blkOf d = some l → blkOf (t 3) ≠ some l) ∧ qs.length ≤ i ∧ q.length ≤ i) ?_
    (m := xs.length) ⟨0, [], [], g, [], .slice none 0 0, by simp, by simp, rfl, rfl, rfl, rfl, Sub.refl g, hs0, Own.lit (upd_same _ _ _) hn rfl (by decide), rfl, by simp, OwnS.nil, by simp [blkOf], by simp, by simp⟩
  rintro I m t g1 n1 hI ⟨i, qs, q, gb, ds, d, hm, hi, h8, h9, h10, hc, hs1, hs2, hown, hdl, hds, hod, hbd, hq1, hq2⟩
  simp only [trace_Cut_l1, h8, h9, h10, kBin_lss, kSplit_b, decide_eq_true_eq, decide_eq_false_iff_not]
  refine ⟨fun hlt => ?_, fun hge => ?_⟩
  · have hlt : i < xs.length := by omega
    have he : xs[i]? = some xs[i] := List.getElem?_eq_getElem hlt
    generalize xs[i] = e at he
    have htk : xs.take (i + 1) = xs.take i ++ [e] := by rw [List.take_add_one, he]; rfl
    have hc' : cutP (xs.take (i + 1)) = cutStep (qs, q) e := by rw [htk]; unfold cutP at hc ⊢; rw [List.foldl_append, hc]; rfl
    have hw : IntKind.i64.wrap ((i : Int) + 1) = ((i + 1 : Nat) : Int) := wrapNat (by omega)
    refine (hv.mono (hs1.trans hs2)).idx encE_len he (fun l o ha => ?_)
    simp only [kPtr_p]
    refine ha.ldN rfl ?_
    intro hn1
    simp only [kAgg_a]
    refine ⟨rfl, kStN_of (upd_same _ _ _) rfl (by simp [encE]) (encE_cell e) ?_⟩
    have hs3 : Sub g1 _ := (((Sub.refl g1).new hn1 (some (.cells [(.int .i64 0), (.int .i64 0), (.int .i64 0), (.int .i64 0), (.int .u64 0)] .exact))).upd_fresh (some (.cells (encE e) .exact)) hn1)
    have hl3 : (upd (upd g1 n1 (some (.cells [(.int .i64 0), (.int .i64 0), (.int .i64 0), (.int .i64 0), (.int .u64 0)] .exact))) n1 (some (.cells (encE e) .exact))) n1 = some (.cells (encE e) .exact) := upd_same _ _ _
    refine kLd_of (upd_same _ _ _) rfl ?_
    simp only [kBin_eql, kSplit_b, decide_eq_true_eq, decide_eq_false_iff_not]
    rcases hown with ⟨h, _⟩ | ⟨lo, c, bk, h3, hg, h0, hl, hck⟩
    · exact absurd h (by omega)
    have hrw : bk.rw = true := by rcases hck with ⟨_, rfl, _⟩ | ⟨_, rfl⟩ <;> rfl
    have hown : Own gb g1 (.slice (some ⟨lo, 0, none⟩) (qs.length + 1) c) 1 (qs.length + 1) (ds ++ [d]) := .inr ⟨lo, c, bk, rfl, hg, h0, hl, hck⟩
    refine ⟨fun hk => ?_, fun hk => ?_⟩
    · -- a failure: a new part
      refine ⟨rfl, by decide, ?_⟩
      intro hn5
      have hs5 := hs3.new hn5 (some (.cells [.slice none 0 0] .exact))
      rw [h3]
      refine append_own (hs2.trans hs5) (hown.mono hs5) (Rd.lit (m := 1) (upd_same _ _ _) rfl) (show ∀ v ∈ [Value.slice none 0 0], isCell v = true from by simp [isCell]) (by decide) (by omega) (by omega) (fun v' g' n' hs' ho' hkeep hfr => ?_)
      simp only [kBin_add, hw]
      have hlo5 := hs5.live hg
      refine hI (xs.length - (i + 1)) _ _ _ (by omega) ⟨i + 1, qs ++ [q], [], upd (upd (upd (upd g1 n1 (some (.cells [(.int .i64 0), (.int .i64 0), (.int .i64 0), (.int .i64 0), (.int .u64 0)] .exact))) n1 (some (.cells (encE e) .exact))) (n1 + 1) (some (.cells [.slice none 0 0] .exact))) lo none, ds ++ [d], .slice none 0 0, rfl, by omega, h8, h9, rfl, by rw [hc']; simp [cutStep, hk], ?_, ?_, ?_, by simp [hdl], ?_, OwnS.nil, by simp [blkOf], by simp; omega, by simp⟩
      · exact hs1.trans ((hs2.trans hs5).upd_fresh _ h0)
      · refine Sub_of_live fun l b hb => ?_
        have hne : l ≠ lo := by intro e; subst e; rw [upd_same] at hb; cases hb
        rw [upd_ne _ _ hne] at hb
        exact hkeep l b hb (fun e => hne (Option.some.inj e).symm)
      · show Own _ g' v' 1 _ _
        rw [List.length_append, List.length_singleton]
        rcases ho' with ⟨h, _⟩ | ⟨lo', c', bk', rfl, hg', h0', hl', hck'⟩
        · exact absurd h (by omega)
        · refine .inr ⟨lo', c', bk', rfl, hg', ?_, by simp [hdl], hck'⟩
          have := hfr (by omega) lo' rfl
          by_cases e : lo' = lo
          · subst e; rw [upd_same]
          · rw [upd_ne _ _ e]; exact this
      · intro j p hp
        rw [List.getElem?_append] at hp
        split at hp
        · rename_i hj
          obtain ⟨c1, h1, h2⟩ := hds j p hp
          exact ⟨c1, by rw [List.getElem?_append_left (by omega)]; exact h1, h2.mono ((hs2.trans hs5).upd_fresh _ h0)⟩
        · rename_i hj
          have hj0 : j - qs.length = 0 := by
            rcases Nat.eq_zero_or_pos (j - qs.length) with h | h
            · exact h
            · rw [List.getElem?_eq_none (by simp; omega)] at hp; cases hp
          rw [hj0] at hp
          simp at hp
          subst hp
          refine ⟨d, by rw [List.getElem?_append_right (by omega), show j - ds.length = 0 by omega]; rfl, ?_⟩
          refine OwnS.sl (g0 := gb) (hod.keep fun l b hb hbl => ?_)
          have hne : l ≠ lo := by intro e; subst e; exact hbd l hbl (by rw [h3]; rfl)
          rw [upd_ne _ _ hne]
          exact hs5.live hb
    · -- an event of the last part
      rw [h3]
      simp only [kLen_s, kBin_sub]
      have hw2 : IntKind.i64.wrap (((qs.length + 1 : Nat) : Int) - 1) = (qs.length : Int) := by rw [wrap64_of (by omega) (by omega)]; omega
      rw [hw2]
      refine kIndexAddr_s (by omega) (by omega) ?_
      simp only [kPtr_p, Int.toNat_natCast, Nat.zero_add, Nat.mul_one]
      have hdd : (ds ++ [d])[qs.length]? = some d := by rw [List.getElem?_append_right (by omega), show qs.length - ds.length = 0 by omega]; rfl
      refine kLd_of (hs3.live hg) hdd ?_
      refine kLdN_of hl3 (by simp [encE]) ?_
      refine ⟨rfl, by decide, ?_⟩
      intro hn5
      have hs5 := hs3.new hn5 (some (.cells (encE e) .exact))
      refine ⟨?_, ?_⟩
      · show upd _ _ _ lo = _
        rw [upd_ne]
        intro e; subst e; exact absurd ((hs3.live hg).symm.trans hn5) (by simp)
      refine OwnS.append (hod.mono hs5) (hs2.trans hs5) (Sl.one (x := e) (encE_len _) (upd_same _ _ _)) encE_cell (by decide) (by simp; omega) (by simp; omega) (fun v' g' n' hs' ho' hkeep hfr => ?_)
      refine kIndexAddr_s (by omega) (by omega) ?_
      simp only [kPtr_p, Int.toNat_natCast, Nat.zero_add, Nat.mul_one]
      have hlo5 := hs5.live hg
      have hne : blkOf d ≠ some lo := fun e => hbd lo e (by rw [h3]; rfl)
      have hg7 := hkeep lo _ hlo5 hne
      have hlv : ∀ l, blkOf v' = some l → l ≠ lo := fun l hl e => by
        subst e; exact absurd (hlo5.symm.trans (hfr (by simp) l hl)) (by simp)
      refine kSt_of hg7 hrw (by simp; omega) (own_cell ho') ?_
      simp only [kBin_add, hw]
      have hset : (ds ++ [d]).set qs.length v' = ds ++ [v'] := by rw [← hdl, List.set_append_right _ _ (by omega)]; simp
      rw [hset]
      refine hI (xs.length - (i + 1)) _ _ _ (by omega) ⟨i + 1, qs, q ++ [e], gb, ds, v', rfl, by omega, h8, h9, rfl, by rw [hc']; simp [cutStep, hk], hs1, hs'.upd_fresh _ h0, ?_, hdl, hds, ?_, ?_, by omega, by simp; omega⟩
      · show Own gb _ (t 3) 1 _ _
        rw [h3]
        exact .inr ⟨lo, c, bk, rfl, upd_same _ _ _, h0, by simpa using hl, hck⟩
      · exact ho'.keep fun l b hb hbl => by rw [upd_ne _ _ (hlv l hbl)]; exact hb
      · intro l hl
        show blkOf (t 3) ≠ some l
        rw [h3]
        simp only [blkOf, ne_eq, Option.some.injEq]
        exact fun e => hlv l hl e.symm
  · have hge : i = xs.length := by omega
    subst hge
    rw [List.take_length] at hc
    refine aRet_of (Sub.refl _) (hK _ _ _ (hs1.trans hs2) ⟨ds ++ [d], ?_, ?_⟩)
    · have : (cutF xs).length = qs.length + 1 := by simp [cutF, hc]
      rw [this]; exact hown.rd
    · intro j p hp
      simp only [cutF, hc] at hp
      rw [List.getElem?_append] at hp
      split at hp
      · rename_i hj
        obtain ⟨c1, h1, h2⟩ := hds j p hp
        exact ⟨c1, by rw [List.getElem?_append_left (by omega)]; exact h1, h2.mono hs2⟩
      · rename_i hj
        have hj0 : j - qs.length = 0 := by
          rcases Nat.eq_zero_or_pos (j - qs.length) with h | h
          · exact h
          · rw [List.getElem?_eq_none (by simp; omega)] at hp; cases hp
        rw [hj0] at hp
        simp at hp
        subst hp
        exact ⟨d, by rw [List.getElem?_append_right (by omega), show j - ds.length = 0 by omega]; rfl, hod.sl⟩
end Go.Proofs.Ytncodeibkmekmaa.Gen

namespace Go.Proofs.Ytncodeibkmekmaa.Gen
open Go Go.Proofs.Ytncodeibkmekmaa.Abs Go.RowKit
variable {g : G} {n : Nat}

theorem kSplit_t {b : Bool} {A B : Prop} (h : b = true) (k : A) : kSplit (.bool b) A B := by subst h; exact k
theorem kSplit_f {b : Bool} {A B : Prop} (h : b = false) (k : B) : kSplit (.bool b) A B := by subst h; exact k
theorem neE (a b : Ev) (K : Value → Prop) (h : K (.bool (decide (a ≠ b)))) : kBin (.agg [.i, .i, .i, .i, .i]) .neq (.agg (encE a).toArray) (.agg (encE b).toArray) K := by
  have e : (!(a.kind == b.kind && (a.core == b.core && (a.line == b.line && (a.word == b.word && (a.val == b.val && true)))))) = decide (a ≠ b) := by
    rw [Bool.eq_iff_iff]; cases a; cases b; simp [Ev.mk.injEq]
  show K (.bool _)
  rw [← e] at h
  exact h

theorem Parts.get {v : Value} {ps : List (List Ev)} {j : Nat} {i : Int} {p : List Ev} {K : Value → Prop} (h : Parts g v ps) (hi : i = (j : Int)) (hj : ps[j]? = some p)
    (kk : ∀ l o c, Sl encE 5 g c p → (∀ K' : Value → Prop, K' c → kLd g l o K') → K (ptr l o)) : kIndexAddr v (.int .i64 i) 1 K := by
  obtain ⟨cs, hr, hc⟩ := h
  obtain ⟨c, h1, h2⟩ := hc j p hj
  have hlt : j < ps.length := by rcases Nat.lt_or_ge j ps.length with h | h; exact h; rw [List.getElem?_eq_none h] at hj; cases hj
  subst hi
  refine hr.idx (by omega) (by omega) (fun l o ha => ?_)
  have e : (cs.drop ((j : Int).toNat * 1)).take 1 = [c] := by
    rw [Int.toNat_natCast, Nat.mul_one]
    have := List.drop_eq_getElem?_toList_append (l := cs) (i := j)
    rw [this, h1]; rfl
  rw [e] at ha
  exact kk l o c h2 fun K' hk => ha.ld (i := 0) rfl hk
theorem Parts.len {v : Value} {ps : List (List Ev)} {K : Value → Prop} (h : Parts g v ps) (k : K (.int .i64 ps.length)) : kLen v K := by obtain ⟨cs, hr, _⟩ := h; exact hr.len k

theorem wakes_spec {K : Cont} (hK : ∀ n', K (.bool true) g n') : AC bellowslaw17_wakes_id [] g n K := by
  refine ACalls.fold X0_mono ?_
  rw [← bellowslaw17_wakes_eq]
  simp only [bellowslaw17_wakes]
  refine ⟨rfl, by decide, rfl, by decide, rfl, by decide, rfl, by decide, rfl, by decide, rfl, by decide, rfl, by decide, rfl, by decide, rfl, by decide, rfl, by decide, rfl, by decide, ?_⟩
  intro hn
  have hs1 : Sub g _ := (Sub.refl g).new hn (some (.cells (([⟨8, 1, 0, 0, 5⟩, ⟨11, 0, 0, 0, 0⟩, ⟨3, 0, 2, 3, 7⟩] : List Ev).map encE).flatten .exact))
  have hl := upd_same g n (some (.cells (([⟨8, 1, 0, 0, 5⟩, ⟨11, 0, 0, 0, 0⟩, ⟨3, 0, 2, 3, 7⟩] : List Ev).map encE).flatten .exact))
  have hsl : Sl encE 5 _ (.slice (some ⟨n, 0, none⟩) 3 3) [⟨8, 1, 0, 0, 5⟩, ⟨11, 0, 0, 0, 0⟩, ⟨3, 0, 2, 3, 7⟩] := Rd.lit hl rfl
  refine Cut_spec hsl (by decide) (fun v8 g2 n8 hs2 hp => ?_)
  rw [show cutF [⟨8, 1, 0, 0, 5⟩, ⟨11, 0, 0, 0, 0⟩, ⟨3, 0, 2, 3, 7⟩] = [[⟨8, 1, 0, 0, 5⟩], [⟨3, 0, 2, 3, 7⟩]] from by decide] at hp
  refine hp.len ?_
  simp only [kBin_eql]
  refine kSplit_t rfl ?_
  refine hp.get (j := 0) rfl rfl (fun l o c hc hld => hld _ (hc.len ?_))
  simp only [kBin_eql]
  refine kSplit_t rfl ?_
  refine hp.get (j := 1) rfl rfl (fun l o c hc hld => hld _ (hc.len ?_))
  simp only [kBin_eql]
  refine kSplit_t rfl ?_
  refine Tells_spec (hsl.mono hs2) (by decide) (fun v28 g3 n28 hs3 ho3 => ?_)
  refine ⟨rfl, by decide, ?_⟩
  intro hn4
  have hs4 := (Sub.refl g3).new hn4 (some (.cells (encW 5) .exact))
  have hl4 := upd_same g3 n28 (some (.cells (encW 5) .exact))
  rw [show (List.filter (tellP 1) ([⟨8, 1, 0, 0, 5⟩, ⟨11, 0, 0, 0, 0⟩, ⟨3, 0, 2, 3, 7⟩] : List Ev)).map Ev.val = [5] from by decide] at ho3
  refine Words_spec (xs := [5]) (ys := [5]) (ho3.sl.mono hs4) (Sl.one (encW_len _) hl4) (by decide) (fun n5 => ?_)
  refine kSplit_t rfl ?_
  refine Stores_spec (hsl.mono (hs2.trans (hs3.trans hs4))) (by decide) (fun v34 g6 n34 hs6 ho6 => ?_)
  refine ⟨rfl, by decide, ?_⟩
  intro hn7
  have hs7 := (Sub.refl g6).new hn7 (some (.cells (encW 7) .exact))
  have hl7 := upd_same g6 n34 (some (.cells (encW 7) .exact))
  rw [show (List.filter (storeP 2 3) ([⟨8, 1, 0, 0, 5⟩, ⟨11, 0, 0, 0, 0⟩, ⟨3, 0, 2, 3, 7⟩] : List Ev)).map Ev.val = [7] from by decide] at ho6
  refine Words_spec (xs := [7]) (ys := [7]) (ho6.sl.mono hs7) (Sl.one (encW_len _) hl7) (by decide) (fun n8 => ?_)
  refine kSplit_t rfl ?_
  have hall := hs2.trans (hs3.trans (hs4.trans (hs6.trans hs7)))
  refine Of_spec (hsl.mono hall) (by decide) (fun v40 g9 n40 hs9 ho9 => ?_)
  refine ho9.sl.len ?_
  simp only [kBin_eql]
  refine kSplit_t (by decide) ?_
  refine Same_spec (hsl.mono (hall.trans hs9)) (hsl.mono (hall.trans hs9)) (by decide) (fun n10 => ?_)
  exact aRet_of (hs1.trans (hall.trans hs9)) (by simpa using hK n10)

/-! the parts -/
structure CutInv (pre : List Ev) (s : List (List Ev) × List Ev) : Prop where
  cs : ∃ cs : List (List Ev), cs.length = s.1.length ∧ (∀ (i : Nat) (p : List Ev), s.1[i]? = some p → ∃ f : Ev, f.kind = 11 ∧ cs[i]? = some (p ++ [f])) ∧ pre = cs.flatten ++ s.2
  ok : ∀ p ∈ s.1 ++ [s.2], ∀ e ∈ p, e.kind ≠ 11
  count : (pre.filter (ofP 11 (-1))).length = s.1.length

theorem cutInv_step {pre : List Ev} {s : List (List Ev) × List Ev} (h : CutInv pre s) (e : Ev) : CutInv (pre ++ [e]) (cutStep s e) := by
  obtain ⟨⟨cs, h1, h2, h3⟩, hok, hcount⟩ := h
  obtain ⟨qs, q⟩ := s
  simp only at h1 h2 h3 hok hcount
  by_cases hk : e.kind = 11
  · refine ⟨⟨cs ++ [q ++ [e]], by simp [cutStep, hk, h1], ?_, by simp [cutStep, hk, h3]⟩, ?_, by simp [cutStep, hk, hcount, ofP]⟩
    · intro i p hp
      simp only [cutStep, hk, if_true] at hp
      rw [List.getElem?_append] at hp
      split at hp
      · rename_i hi
        obtain ⟨f, hf, hc⟩ := h2 i p hp
        exact ⟨f, hf, by rw [List.getElem?_append_left (by omega)]; exact hc⟩
      · rename_i hi
        have hi0 : i - qs.length = 0 := by
          rcases Nat.eq_zero_or_pos (i - qs.length) with h | h
          · exact h
          · rw [List.getElem?_eq_none (by simp; omega)] at hp; cases hp
        rw [hi0] at hp
        simp at hp
        subst hp
        exact ⟨e, hk, by rw [List.getElem?_append_right (by omega), show i - cs.length = 0 by omega]; rfl⟩
    · intro p hp
      simp only [cutStep, hk, if_true] at hp
      rcases List.mem_append.1 hp with h | h
      · exact hok p h
      · simp at h; subst h; simp
  · refine ⟨⟨cs, by simp [cutStep, hk, h1], ?_, by simp [cutStep, hk, h3]⟩, ?_, by simp [cutStep, hk, hcount, ofP]⟩
    · intro i p hp
      simp only [cutStep, hk, if_false] at hp
      exact h2 i p hp
    · intro p hp x hx
      simp only [cutStep, hk, if_false] at hp
      rcases List.mem_append.1 hp with h | h
      · exact hok p (List.mem_append_left _ h) x hx
      · simp at h
        subst h
        rcases List.mem_append.1 hx with h | h
        · exact hok q (by simp) x h
        · simp at h; subst h; exact hk
theorem cutInv_fold : ∀ (l pre : List Ev) (s : List (List Ev) × List Ev), CutInv pre s → CutInv (pre ++ l) (l.foldl cutStep s)
  | [], pre, s, h => by simpa using h
  | e :: l, pre, s, h => by
    have := cutInv_fold l (pre ++ [e]) (cutStep s e) (cutInv_step h e)
    simpa using this
theorem cutInv (l : List Ev) : CutInv l (cutP l) := by
  have := cutInv_fold l [] ([], []) ⟨⟨[], by simp⟩, by simp, by simp⟩
  simpa [cutP] using this
theorem cut_count (l : List Ev) : (cutF l).length = (l.filter (ofP 11 (-1))).length + 1 := by simp [cutF, (cutInv l).count]

theorem flatten_at {α : Type} : ∀ (bs : List (List α)) (i : Nat) (b : List α) (k : Nat), bs[i]? = some b → k < b.length → bs.flatten[(bs.take i).flatten.length + k]? = b[k]?
  | [], i, b, k, h, _ => by simp at h
  | c :: bs, 0, b, k, h, hk => by
    simp at h; subst h
    simp [List.getElem?_append_left hk]
  | c :: bs, i + 1, b, k, h, hk => by
    have ih := flatten_at bs i b k (by simpa using h) hk
    rw [← ih]
    simp only [List.take_succ_cons, List.flatten_cons, List.length_append]
    rw [List.getElem?_append_right (by omega)]
    congr 1; omega

/-- where the parts stand in the whole: 'off i' is where part i begins -/
theorem cut_offs (l : List Ev) : ∃ off : Nat → Nat, off 0 = 0 ∧ (∀ (i : Nat) (p : List Ev), (cutF l)[i]? = some p → off (i + 1) = off i + p.length + 1 ∧ (∀ (k : Nat) (e : Ev), p[k]? = some e → l[off i + k]? = some e ∧ e.kind ≠ 11)) ∧
    (∀ i, 0 < i → i < (cutF l).length → ∃ e : Ev, 0 < off i ∧ l[off i - 1]? = some e ∧ e.kind = 11) ∧ off (cutF l).length = l.length + 1 := by
  obtain ⟨⟨cs, h1, h2, h3⟩, hok, _⟩ := cutInv l
  obtain ⟨fake, hfake⟩ : ∃ e : Ev, e.kind = 11 := ⟨⟨11, 0, 0, 0, 0⟩, rfl⟩
  have hbs : ∀ (i : Nat) (p : List Ev), (cutF l)[i]? = some p → ∃ f : Ev, f.kind = 11 ∧ (cs ++ [(cutP l).2 ++ [fake]])[i]? = some (p ++ [f]) := by
    intro i p hp
    unfold cutF at hp
    rw [List.getElem?_append] at hp
    split at hp
    · obtain ⟨f, hf, hc⟩ := h2 i p hp
      exact ⟨f, hf, by rw [List.getElem?_append_left (by omega)]; exact hc⟩
    · have hi0 : i - (cutP l).1.length = 0 := by
        rcases Nat.eq_zero_or_pos (i - (cutP l).1.length) with h | h
        · exact h
        · rw [List.getElem?_eq_none (by simp; omega)] at hp; cases hp
      rw [hi0] at hp
      simp at hp
      subst hp
      exact ⟨fake, hfake, by rw [List.getElem?_append_right (by omega), show i - cs.length = 0 by omega]; rfl⟩
  have hfl : (cs ++ [(cutP l).2 ++ [fake]]).flatten = l ++ [fake] := by
    have : l ++ [fake] = cs.flatten ++ (cutP l).2 ++ [fake] := by rw [← h3]
    rw [this]; simp
  have hlen : (cs ++ [(cutP l).2 ++ [fake]]).length = (cutF l).length := by simp [cutF, h1]
  generalize cs ++ [(cutP l).2 ++ [fake]] = bs at hbs hfl hlen
  have hoff : ∀ (i : Nat) (b : List Ev), bs[i]? = some b → (bs.take (i + 1)).flatten.length = (bs.take i).flatten.length + b.length := by
    intro i b hb
    rw [List.take_add_one, hb]; simp
  have htot : (bs.take (cutF l).length).flatten.length = l.length + 1 := by rw [← hlen, List.take_length, hfl]; simp
  have hle : ∀ i, (bs.take i).flatten.length ≤ l.length + 1 := by
    intro i
    have : (bs.take i).flatten.length + (bs.drop i).flatten.length = l.length + 1 := by
      rw [← List.length_append, ← List.flatten_append, List.take_append_drop, hfl]; simp
    omega
  refine ⟨fun i => (bs.take i).flatten.length, by simp, ?_, ?_, htot⟩
  · intro i p hp
    obtain ⟨f, hf, hb⟩ := hbs i p hp
    refine ⟨show (bs.take (i + 1)).flatten.length = (bs.take i).flatten.length + p.length + 1 by rw [hoff i _ hb]; simp; omega, ?_⟩
    intro k e he
    have hk : k < p.length := by rcases Nat.lt_or_ge k p.length with h | h; exact h; rw [List.getElem?_eq_none h] at he; cases he
    have h := flatten_at bs i (p ++ [f]) k hb (by simp; omega)
    rw [hfl, List.getElem?_append_left hk, he] at h
    have hle' := hle (i + 1)
    rw [hoff i _ hb] at hle'
    simp only [List.length_append, List.length_singleton] at hle'
    rw [List.getElem?_append_left (by omega)] at h
    exact ⟨h, hok p (List.mem_of_getElem? hp) e (List.mem_of_getElem? he)⟩
  · intro i h0 hi
    obtain ⟨j, rfl⟩ : ∃ j, i = j + 1 := ⟨i - 1, by omega⟩
    have hp : (cutF l)[j]? = some (cutF l)[j] := List.getElem?_eq_getElem (by omega)
    obtain ⟨f, hf, hb⟩ := hbs j _ hp
    have hp2 : (cutF l)[j + 1]? = some (cutF l)[j + 1] := List.getElem?_eq_getElem hi
    obtain ⟨f2, hf2, hb2⟩ := hbs (j + 1) _ hp2
    have ho := hoff j _ hb
    have ho2 := hoff (j + 1) _ hb2
    have hle2 := hle (j + 1 + 1)
    simp only [List.length_append, List.length_singleton] at ho ho2
    refine ⟨f, show 0 < (bs.take (j + 1)).flatten.length by omega, ?_, hf⟩
    show l[(bs.take (j + 1)).flatten.length - 1]? = some f
    have h := flatten_at bs j _ (cutF l)[j].length hb (by simp)
    rw [hfl] at h
    rw [List.getElem?_append_left (by omega)] at h
    rw [show (bs.take (j + 1)).flatten.length - 1 = (bs.take j).flatten.length + (cutF l)[j].length by omega, h]
    simp
end Go.Proofs.Ytncodeibkmekmaa.Gen

namespace Go.Proofs.Ytncodeibkmekmaa.Gen
open Go Go.Proofs.Ytncodeibkmekmaa.Abs Go.RowKit
variable {g : G} {n : Nat}

theorem lt_of_get {α : Type} {xs : List α} {i : Nat} {x : α} (h : xs[i]? = some x) : i < xs.length := by
  rcases Nat.lt_or_ge i xs.length with h' | h'
  · exact h'
  · rw [List.getElem?_eq_none h'] at h; cases h
theorem take_add {α : Type} {xs : List α} {i : Nat} {x : α} (h : xs[i]? = some x) : xs.take (i + 1) = xs.take i ++ [x] := by rw [List.take_add_one, h]; rfl
theorem drop_get {α : Type} {xs : List α} {i : Nat} {x : α} (h : xs[i]? = some x) : xs.drop i = x :: xs.drop (i + 1) := by
  rw [List.drop_eq_getElem?_toList_append, h]; rfl

def toldP (core : Int) (e : Ev) : Bool := decide (core = -1) && (decide (e.kind = 8) && decide (e.core ≠ -1))
theorem told_spec {v : Value} {xs : List Ev} {core : Int} (hv : Sl encE 5 g v xs) (hlen : xs.length < 1000000) {K : Cont}
    (hK : ∀ n', K (.int .i64 (xs.filter (toldP core)).length) g n') : AC bellowslaw17_told_id [v, .int .i64 core] g n K := by
  refine ACalls.fold X0_mono ?_
  rw [← bellowslaw17_told_eq]
  simp only [bellowslaw17_told]
  refine lfp_ind (fun m t g' n' => g' = g ∧ ∃ i : Nat, m = xs.length - i ∧ i ≤ xs.length ∧ t 0 = v ∧ t 1 = .int .i64 core ∧ t 5 = .int .i64 (((xs.take i).filter (toldP core)).length : Nat) ∧ t 6 = .int .i64 i) ?_
    (m := xs.length) ⟨rfl, 0, by simp, by simp, rfl, rfl, rfl, rfl⟩
  rintro I m t g1 n1 hI ⟨rfl, i, hm, hi, h0, h1, h5, h6⟩
  simp only [bellowslaw17_told_l1, h0, h1, h5, h6]
  refine hv.len ?_
  simp only [kBin_lss, kSplit_b, decide_eq_true_eq, decide_eq_false_iff_not]
  refine ⟨fun hlt => ?_, fun hge => ?_⟩
  · have hlt : i < xs.length := by omega
    have he : xs[i]? = some xs[i] := List.getElem?_eq_getElem hlt
    generalize xs[i] = e at he
    have hcl := List.length_filter_le (toldP core) (xs.take i)
    rw [List.length_take] at hcl
    have next : ∀ (t : Env) (n1 : Nat), t 0 = v → t 1 = .int .i64 core → t 5 = .int .i64 (((xs.take (i + 1)).filter (toldP core)).length : Nat) → t 6 = .int .i64 i → bellowslaw17_told_j2 AC K I t g1 n1 := by
      intro t n1 h0 h1 h5 h6
      simp only [bellowslaw17_told_j2, h6, kBin_add]
      rw [wrapNat (by omega)]
      exact hI (xs.length - (i + 1)) _ _ _ (by omega) ⟨rfl, i + 1, rfl, by omega, h0, h1, h5, rfl⟩
    have no : toldP core e = false → ((xs.take (i + 1)).filter (toldP core)).length = ((xs.take i).filter (toldP core)).length := by
      intro h; rw [take_add he]; simp [h]
    simp only [kBin_eql, kSplit_b, decide_eq_true_eq, decide_eq_false_iff_not]
    refine ⟨fun hc => ?_, fun hc => next _ _ h0 h1 (by rw [no (by simp [toldP, hc])]; exact h5) h6⟩
    refine hv.idx encE_len he (fun l o ha => ?_)
    simp only [kPtr_p]
    refine ha.ld (i := 0) rfl ?_
    simp only [kBin_eql, kSplit_b, decide_eq_true_eq, decide_eq_false_iff_not]
    refine ⟨fun hk => ?_, fun hk => next _ _ h0 h1 (by rw [no (by simp [toldP, hk])]; exact h5) h6⟩
    refine hv.idx encE_len he (fun l o ha => ?_)
    simp only [kPtr_p]
    refine ha.ld (i := 1) rfl ?_
    simp only [kBin_neq, kBin_add, kSplit_b, decide_eq_true_eq, decide_eq_false_iff_not]
    refine ⟨fun hk2 => ?_, fun hk2 => next _ _ h0 h1 (by rw [no (by simpa [toldP] using fun _ _ => Classical.not_not.1 hk2)]; exact h5) h6⟩
    rw [wrapNat (by omega)]
    refine next _ _ h0 h1 ?_ h6
    show Value.int .i64 _ = _
    rw [take_add he]
    have : toldP core e = true := by simp [toldP, hc, hk, hk2]
    simp [this]
  · have : i = xs.length := by omega
    subst this
    exact aRet_of (Sub.refl _) (by rw [List.take_length]; exact hK _)

/-- counts of events whose kinds are apart add up -/
theorem count_add {α : Type} (p q r : α → Bool) : ∀ (xs : List α), (∀ x ∈ xs, r x = (p x || q x) ∧ ¬ (p x = true ∧ q x = true)) → (xs.filter r).length = (xs.filter p).length + (xs.filter q).length
  | [], _ => rfl
  | x :: xs, h => by
    have ih := count_add p q r xs (fun x hx => h x (by simp [hx]))
    obtain ⟨h1, h2⟩ := h x (by simp)
    cases hp : p x <;> cases hq : q x <;> simp [hp, hq] at h1 h2 <;> simp [hp, hq, h1, ih] <;> omega
def rangeP (k : Int) (e : Ev) : Bool := decide (-1 ≤ e.kind) && decide (e.kind < k) && decide (e.kind ≠ 0)
def otherP (e : Ev) : Bool := decide (e.kind < -1) || decide (e.kind = 0) || decide (20 < e.kind)
theorem range_step (xs : List Ev) (k : Int) (h0 : -1 ≤ k) (hk : k ≠ 0) : (xs.filter (rangeP (k + 1))).length = (xs.filter (rangeP k)).length + (xs.filter (ofP k (-1))).length := by
  refine count_add _ _ _ _ fun e _ => ?_
  constructor
  · rw [Bool.eq_iff_iff]; simp [rangeP, ofP, hk]; omega
  · simp [rangeP, ofP, hk]; omega
theorem range_skip (xs : List Ev) : (xs.filter (rangeP (0 + 1))).length = (xs.filter (rangeP 0)).length := by
  congr 2; funext e; rw [Bool.eq_iff_iff]; simp [rangeP]; omega
theorem range_all (xs : List Ev) : (xs.filter (rangeP 21)).length + (xs.filter otherP).length = xs.length := by
  rw [← count_add (rangeP 21) otherP (fun _ => true) xs fun e _ => ?_]
  · simp
  constructor
  · show true = _
    rw [Bool.eq_iff_iff]; simp [rangeP, otherP]; omega
  · simp [rangeP, otherP]; omega
theorem tell_count (xs : List Ev) (core : Int) : (xs.filter (ofP 8 core)).length = ((xs.filter (tellP core)).map Ev.val).length + (xs.filter (toldP core)).length := by
  rw [List.length_map]
  refine count_add _ _ _ _ fun e _ => ?_
  constructor
  · rw [Bool.eq_iff_iff]; simp [ofP, tellP, toldP]; omega
  · simp [tellP, toldP]; omega
theorem of_all (xs : List Ev) : xs.filter (ofP 0 (-1)) = xs := by
  rw [List.filter_eq_self]; intro e _; simp [ofP]

theorem TraceOf_spec {a0 : Value} {core : Int} {xs : List Ev} (h0 : Sl encE 5 g a0 xs) {K : Cont} (hK : ∀ n', K (.bool true) g n') :
    AC bellowslaw17_TraceOf_id [a0, .int .i64 core] g n K := by
  refine ACalls.fold X0_mono ?_
  rw [← bellowslaw17_TraceOf_eq]
  simp only [bellowslaw17_TraceOf]
  refine h0.len ?_
  simp only [kBin_gtr, kSplit_b, decide_eq_true_eq, decide_eq_false_iff_not]
  refine ⟨fun _ => wakes_spec fun n' => aRet_of (Sub.refl _) (hK _), fun hx => ?_⟩
  have hx : xs.length ≤ 300 := by omega
  refine lfp_ind (fun m t g' n' => Sub g g' ∧ ∃ k : Int, m = (21 - k).toNat ∧ -1 ≤ k ∧ k ≤ 21 ∧ t 0 = a0 ∧ t 1 = .int .i64 core ∧ t 5 = .int .i64 ((xs.filter (rangeP k)).length : Nat) ∧ t 6 = .int .i64 k) ?_
    (m := 22) ⟨Sub.refl g, -1, rfl, by omega, by omega, rfl, rfl, ?_, rfl⟩
  · rintro I m t g1 n1 hI ⟨hs1, k, hm, hk1, hk2, t0, t1, t5, t6⟩
    have hx1 := h0.mono hs1
    have hrl := List.length_filter_le (rangeP k) xs
    have hol := List.length_filter_le (ofP k (-1)) xs
    simp only [bellowslaw17_TraceOf_l1, t0, t5, t6, kBin_leq, kSplit_b, decide_eq_true_eq, decide_eq_false_iff_not]
    refine ⟨fun hle => ?_, fun hgt => ?_⟩
    · have next : ∀ (t : Env) (g2 : G) (n1 : Nat), Sub g g2 → t 0 = a0 → t 1 = .int .i64 core → t 5 = .int .i64 ((xs.filter (rangeP (k + 1))).length : Nat) → t 6 = .int .i64 k → bellowslaw17_TraceOf_j2 AC K I t g2 n1 := by
        intro t g2 n1 hs t0 t1 t5 t6
        simp only [bellowslaw17_TraceOf_j2, t6, kBin_add]
        rw [wrap64_of (by omega) (by omega)]
        exact hI (21 - (k + 1)).toNat _ _ _ (by omega) ⟨hs, k + 1, rfl, by omega, by omega, t0, t1, t5, rfl⟩
      simp only [kBin_eql, kSplit_b, decide_eq_true_eq, decide_eq_false_iff_not]
      refine ⟨fun hk0 => ?_, fun hk0 => ?_⟩
      · subst hk0
        exact next _ _ _ hs1 t0 t1 (by rw [range_skip]; exact t5) t6
      · intro hn2
        have hs2 := (Sub.refl g1).new hn2 (some (.cells [] .exact))
        refine OwnS.append (OwnS.empty (g0 := g1)) hs2 (hx1.mono hs2) encE_cell (by decide) (by simp; omega) (by simp; omega) (fun v24 g3 n3 hs3 ho3 _ _ => ?_)
        refine Of_spec (xs := xs) ho3.sl (by omega) (fun v26 g4 n4 hs4 ho4 => ?_)
        have hs4' := hs3.trans hs4
        have hx4 := hx1.mono hs4'
        have hsl := ho4.sl
        have hpk : ∀ e ∈ xs.filter (ofP k (-1)), e.kind = k ∧ ofP k (-1) e = true := by
          intro e he
          have := (List.mem_filter.1 he).2
          refine ⟨?_, this⟩
          simpa [ofP, hk0] using this
        have hstep := range_step xs k hk1 hk0
        refine hsl.len ?_
        simp only [kBin_add]
        rw [wrap64_of (by omega) (by omega)]
        generalize hy : xs.filter (ofP k (-1)) = ys at *
        have hts : ∀ {tt : Env}, tt 5 = .int .i64 (((xs.filter (rangeP k)).length : Nat) + (ys.length : Nat) : Int) → tt 5 = .int .i64 ((xs.filter (rangeP (k + 1))).length : Nat) := by
          intro tt h; rw [h, hstep]; congr 1
        refine lfp_ind (fun m t g' n' => g' = g4 ∧ ∃ i a : Nat, m = ys.length - i ∧ i ≤ ys.length ∧ a ≤ xs.length ∧ (xs.drop a).filter (ofP k (-1)) = ys.drop i ∧ t 0 = a0 ∧ t 1 = .int .i64 core ∧ t 5 = .int .i64 ((xs.filter (rangeP (k + 1))).length : Nat) ∧ t 6 = .int .i64 k ∧ t 7 = v26 ∧ t 8 = .int .i64 a ∧ t 9 = .int .i64 i) ?_
          (m := ys.length) ⟨rfl, 0, 0, by simp, by simp, by simp, by simpa using hy, t0, t1, hts rfl, t6, rfl, rfl, rfl⟩
        rintro J m' t g5 n5 hJ ⟨rfl, i, a, hm', hi, ha, hf, t0, t1, t5, t6, t7, t8, t9⟩
        simp only [bellowslaw17_TraceOf_l3, t7, t9]
        refine hsl.len ?_
        simp only [kBin_lss, kSplit_b, decide_eq_true_eq, decide_eq_false_iff_not]
        refine ⟨fun hlt => ?_, fun hge => next _ _ _ (hs1.trans hs4') t0 t1 t5 t6⟩
        have hlt : i < ys.length := by omega
        have hye : ys[i]? = some ys[i] := List.getElem?_eq_getElem hlt
        generalize ys[i] = y at hye
        obtain ⟨hyk, hyp⟩ := hpk y (List.mem_of_getElem? hye)
        -- the search
        refine lfp_ind (fun m t g' n' => g' = g5 ∧ ∃ a : Nat, m = xs.length - a ∧ a ≤ xs.length ∧ (xs.drop a).filter (ofP k (-1)) = ys.drop i ∧ t 0 = a0 ∧ t 1 = .int .i64 core ∧ t 5 = .int .i64 ((xs.filter (rangeP (k + 1))).length : Nat) ∧ t 6 = .int .i64 k ∧ t 7 = v26 ∧ t 8 = .int .i64 a ∧ t 9 = .int .i64 i) ?_
          (m := xs.length - a) ⟨rfl, a, rfl, ha, hf, t0, t1, t5, t6, t7, t8, t9⟩
        rintro L m2 t g6 n6 hL ⟨rfl, a, hm2, ha, hf, t0, t1, t5, t6, t7, t8, t9⟩
        rw [drop_get hye] at hf
        have hal : a < xs.length := by
          rcases Nat.lt_or_ge a xs.length with h | h
          · exact h
          · rw [List.drop_eq_nil_of_le h] at hf; simp at hf
        have hxe : xs[a]? = some xs[a] := List.getElem?_eq_getElem hal
        generalize xs[a] = x at hxe
        rw [drop_get hxe] at hf
        simp only [bellowslaw17_TraceOf_l4, t0, t7, t8, t9]
        refine hx4.len ?_
        simp only [kBin_lss]
        refine kSplit_t (by simpa using hal) ?_
        refine hx4.idx encE_len hxe (fun l o ha => ?_)
        simp only [kPtr_p]
        refine ha.ldN rfl ?_
        refine hsl.idx encE_len hye (fun l o ha => ?_)
        simp only [kPtr_p]
        refine ha.ldN rfl (neE _ _ _ ?_)
        simp only [kBin_add, kSplit_b, decide_eq_true_eq, decide_eq_false_iff_not]
        refine ⟨fun hne => ?_, fun heq => ?_⟩
        · rw [wrapNat (by omega)]
          refine hL (xs.length - (a + 1)) _ _ _ (by omega) ⟨rfl, a + 1, rfl, by omega, ?_, t0, t1, t5, t6, t7, rfl, t9⟩
          rw [drop_get hye]
          by_cases hp : ofP k (-1) x = true
          · rw [List.filter_cons_of_pos hp] at hf
            exact absurd (List.cons.inj hf).1 hne
          · rw [List.filter_cons_of_neg hp] at hf
            exact hf
        · have heq : x = y := Classical.not_not.1 heq
          subst heq
          rw [List.filter_cons_of_pos hyp] at hf
          have hf' := (List.cons.inj hf).2
          unfold bellowslaw17_TraceOf_j5
          show kLen (t 0) _
          rw [t0]
          refine hx4.len ?_
          show kBin .int .eql (t 8) _ _
          rw [t8]
          simp only [kBin_eql]
          refine kSplit_f (by simp; omega) ?_
          show kIndexAddr (t 7) (t 9) _ _
          rw [t7, t9]
          refine hsl.idx encE_len hye (fun l o ha => ?_)
          simp only [kPtr_p]
          refine ha.ld (i := 0) rfl ?_
          show kBin .int .neq _ (t 6) _
          rw [t6]
          simp only [kBin_neq]
          refine kSplit_f (by simp [hyk]) ?_
          show kBin .int .add (t 8) _ _
          rw [t8]
          simp only [kBin_add]
          unfold bellowslaw17_TraceOf_j6
          show kBin .int .add (t 9) _ _
          rw [t9]
          simp only [kBin_add]
          rw [wrapNat (by omega), wrapNat (by omega)]
          exact hJ (ys.length - (i + 1)) _ _ _ (by omega) ⟨rfl, i + 1, a + 1, rfl, by omega, by omega, hf', t0, t1, t5, t6, t7, rfl, rfl⟩
    · have hk : k = 21 := by omega
      subst hk
      unfold bellowslaw17_TraceOf_j7
      refine lfp_ind (fun m t g' n' => g' = g1 ∧ ∃ i : Nat, m = xs.length - i ∧ i ≤ xs.length ∧ t 0 = a0 ∧ t 1 = .int .i64 core ∧ t 5 = .int .i64 ((xs.filter (rangeP 21)).length : Nat) ∧ t 10 = .int .i64 (((xs.take i).filter otherP).length : Nat) ∧ t 11 = .int .i64 i) ?_
        (m := xs.length) ⟨rfl, 0, by simp, by simp, t0, t1, t5, rfl, rfl⟩
      rintro J m' t g2 n2 hJ ⟨rfl, i, hm', hi, t0, t1, t5, t10, t11⟩
      simp only [bellowslaw17_TraceOf_l8, t0, t10, t11]
      refine hx1.len ?_
      simp only [kBin_lss, kSplit_b, decide_eq_true_eq, decide_eq_false_iff_not]
      refine ⟨fun hlt => ?_, fun hge => ?_⟩
      · have hlt : i < xs.length := by omega
        have he : xs[i]? = some xs[i] := List.getElem?_eq_getElem hlt
        generalize xs[i] = e at he
        have hcl := List.length_filter_le otherP (xs.take i)
        rw [List.length_take] at hcl
        have next : ∀ (t : Env) (n1 : Nat), t 0 = a0 → t 1 = .int .i64 core → t 5 = .int .i64 ((xs.filter (rangeP 21)).length : Nat) → t 10 = .int .i64 (((xs.take (i + 1)).filter otherP).length : Nat) → t 11 = .int .i64 i → bellowslaw17_TraceOf_j9 AC K J t g2 n1 := by
          intro t n1 t0 t1 t5 t10 t11
          simp only [bellowslaw17_TraceOf_j9, t11, kBin_add]
          rw [wrapNat (by omega)]
          exact hJ (xs.length - (i + 1)) _ _ _ (by omega) ⟨rfl, i + 1, rfl, by omega, t0, t1, t5, t10, rfl⟩
        have yes : otherP e = true → (Value.int .i64 (((xs.take i).filter otherP).length + 1 : Nat)) = .int .i64 (((xs.take (i + 1)).filter otherP).length : Nat) := by
          intro h; rw [take_add he]; simp [h]
        have no : otherP e = false → ((xs.take (i + 1)).filter otherP).length = ((xs.take i).filter otherP).length := by
          intro h; rw [take_add he]; simp [h]
        refine hx1.idx encE_len he (fun l o ha => ?_)
        simp only [kPtr_p]
        refine ha.ld (i := 0) rfl ?_
        simp only [kBin_lss, kBin_add, kSplit_b, decide_eq_true_eq, decide_eq_false_iff_not]
        rw [wrapNat (by omega)]
        refine ⟨fun h1 => next _ _ t0 t1 t5 (yes (by simp [otherP, h1])) t11, fun h1 => ?_⟩
        refine hx1.idx encE_len he (fun l o ha => ?_)
        simp only [kPtr_p]
        refine ha.ld (i := 0) rfl ?_
        simp only [kBin_eql, kBin_add, kSplit_b, decide_eq_true_eq, decide_eq_false_iff_not]
        refine ⟨fun h2 => next _ _ t0 t1 t5 (yes (by simp [otherP, h2])) t11, fun h2 => ?_⟩
        refine hx1.idx encE_len he (fun l o ha => ?_)
        simp only [kPtr_p]
        refine ha.ld (i := 0) rfl ?_
        simp only [kBin_gtr, kBin_add, kSplit_b, decide_eq_true_eq, decide_eq_false_iff_not]
        refine ⟨fun h3 => next _ _ t0 t1 t5 (yes (by simp [otherP, h3])) t11, fun h3 => next _ _ t0 t1 t5 ?_ t11⟩
        rw [no (by simp [otherP]; omega)]; exact t10
      · have hi' : i = xs.length := by omega
        subst hi'
        rw [List.take_length] at t10
        have hall := range_all xs
        have hcl := List.length_filter_le otherP xs
        unfold bellowslaw17_TraceOf_j10
        show kBin .int .add (t 5) (t 10) _
        rw [t5, t10]
        simp only [kBin_add]
        rw [wrap64_of (by omega) (by omega)]
        show kLen (t 0) _
        rw [t0]
        refine hx1.len ?_
        simp only [kBin_eql]
        refine kSplit_t (by simp; omega) ?_
        show AC _ [t 0, _, _] _ _ _
        rw [t0]
        refine Of_spec hx1 (by omega) (fun v107 g5 n5 hs5 ho5 => ?_)
        show AC _ [v107, t 0] _ _ _
        rw [t0]
        rw [of_all] at ho5
        refine Same_spec ho5.sl (hx1.mono hs5) (by omega) (fun n6 => ?_)
        refine kSplit_t (by simp) ?_
        show AC _ [t 0, _, t 1] _ _ _
        rw [t0, t1]
        refine Of_spec (hx1.mono hs5) (by omega) (fun v114 g7 n7 hs7 ho7 => ho7.sl.len ?_)
        show AC _ [t 0, t 1] _ _ _
        rw [t0, t1]
        refine Tells_spec (hx1.mono (hs5.trans hs7)) (by omega) (fun v118 g8 n8 hs8 ho8 => ho8.sl.len ?_)
        show AC _ [t 0, t 1] _ _ _
        rw [t0, t1]
        refine told_spec (hx1.mono (hs5.trans (hs7.trans hs8))) (by omega) (fun n9 => ?_)
        have htc := tell_count xs core
        have hl1 := List.length_filter_le (ofP 8 core) xs
        simp only [kBin_add, kBin_eql]
        rw [wrap64_of (by omega) (by omega)]
        refine kSplit_t (decide_eq_true (by omega)) ?_
        exact wakes_spec fun n10 => aRet_of (hs1.trans (hs5.trans (hs7.trans hs8))) (hK _)
  · show Value.int .i64 0 = _
    have : xs.filter (rangeP (-1)) = [] := by rw [List.filter_eq_nil_iff]; intro e _; simp [rangeP]; omega
    rw [this]; rfl
end Go.Proofs.Ytncodeibkmekmaa.Gen

namespace Go.Proofs.Ytncodeibkmekmaa.Gen
open Go Go.Proofs.Ytncodeibkmekmaa.Abs Go.RowKit
variable {g : G} {n : Nat}

/-- where the first such element stands -/
def idxOf {α : Type} (p : α → Bool) (xs : List α) : Option Nat := xs.findIdx? p
def idxV (o : Option Nat) : Value := match o with | some i => .int .i64 (i : Nat) | none => .int .i64 (-1)

theorem IndexFunc_Event_spec {v such : Value} (p : Ev → Bool) {xs : List Ev} (hv : Sl encE 5 g v xs)
    (hsuch : ∀ (g' : G) (n' : Nat) (e : Ev) (K : Cont), Sub g g' → (∀ n, K (.bool (p e)) g' n) → kCall AC such [.agg (encE e).toArray] g' n' K)
    (hlen : xs.length < 1000000) {K : Cont} (hK : ∀ n', K (idxV (xs.findIdx? p)) g n') : AC slices_IndexFunc_api_Event_api_Event_id [v, such] g n K := by
  refine ACalls.fold X0_mono ?_
  rw [← slices_IndexFunc_api_Event_api_Event_eq]
  simp only [slices_IndexFunc_api_Event_api_Event]
  refine hv.len ?_
  refine lfp_ind (fun m t g' n' => g' = g ∧ ∃ i : Nat, m = xs.length - i ∧ i ≤ xs.length ∧ t 0 = v ∧ t 1 = such ∧ t 7 = .int .i64 xs.length ∧ t 8 = .int .i64 i ∧ (∀ x ∈ xs.take i, p x = false)) ?_
    (m := xs.length) ⟨rfl, 0, by simp, by simp, rfl, rfl, rfl, rfl, by simp⟩
  rintro I m t g1 n1 hI ⟨rfl, i, hm, hi, h0, h1, h7, h8, hp⟩
  simp only [slices_IndexFunc_api_Event_api_Event_l1, h0, h1, h7, h8, kBin_lss, kSplit_b, decide_eq_true_eq, decide_eq_false_iff_not]
  refine ⟨fun hlt => ?_, fun hge => ?_⟩
  · have hlt : i < xs.length := by omega
    have he : xs[i]? = some xs[i] := List.getElem?_eq_getElem hlt
    have hei : xs[i] = xs[i] := rfl
    generalize hx : xs[i] = e at he
    refine hv.idx encE_len he (fun l o ha => ?_)
    simp only [kPtr_p]
    refine ha.ldN rfl ?_
    refine hsuch _ _ _ _ (Sub.refl _) (fun n2 => ?_)
    simp only [kSplit_b, kBin_add]
    refine ⟨fun hpe => aRet_of (Sub.refl _) ?_, fun hpe => ?_⟩
    · have : xs.findIdx? p = some i := by
        rw [List.findIdx?_eq_some_iff_getElem]
        refine ⟨hlt, by rw [hx]; exact hpe, fun j hj => ?_⟩
        have := hp xs[j] (List.mem_of_getElem? (i := j) (by rw [List.getElem?_take, if_pos hj, List.getElem?_eq_getElem]))
        simp [this]
      have := hK n2
      rw [‹xs.findIdx? p = some i›] at this
      exact this
    · rw [wrapNat (by omega)]
      refine hI (xs.length - (i + 1)) _ _ _ (by omega) ⟨rfl, i + 1, rfl, by omega, h0, h1, h7, rfl, ?_⟩
      intro x hx'
      rw [take_add he] at hx'
      rcases List.mem_append.1 hx' with h | h
      · exact hp x h
      · simp at h; subst h; exact hpe
  · have : i = xs.length := by omega
    subst this
    rw [List.take_length] at hp
    have h : xs.findIdx? p = none := by rw [List.findIdx?_eq_none_iff]; exact hp
    have := hK n1
    rw [h] at this
    exact aRet_of (Sub.refl _) this

def zeroE : Ev := ⟨0, 0, 0, 0, 0⟩
theorem filter_take_none {α : Type} {p : α → Bool} {xs : List α} {i : Nat} (h : ∀ x ∈ xs.take i, p x = false) : (xs.take i).filter (fun x => !p x) = xs.take i := by
  rw [List.filter_eq_self]; intro x hx; simp [h x hx]

theorem DeleteFunc_Event_spec {g0 : G} {v such : Value} (p : Ev → Bool) {xs : List Ev} (hv : OwnS encE 5 g0 g v xs) (hs0 : Sub g0 g)
    (hsuch : ∀ (g' : G) (n' : Nat) (e : Ev) (K : Cont), Sub g0 g' → (∀ n, K (.bool (p e)) g' n) → kCall AC such [.agg (encE e).toArray] g' n' K)
    (hlen : xs.length < 1000000) {K : Cont} (hK : ∀ v' g' n', Sub g0 g' → Sl encE 5 g' v' (xs.filter fun e => !p e) → K v' g' n') : AC slices_DeleteFunc_api_Event_api_Event_id [v, such] g n K := by
  refine ACalls.fold X0_mono ?_
  rw [← slices_DeleteFunc_api_Event_api_Event_eq]
  simp only [slices_DeleteFunc_api_Event_api_Event]
  refine IndexFunc_Event_spec p hv.sl (fun g' n' e K hs => hsuch g' n' e K (hs0.trans hs)) hlen (fun n1 => ?_)
  cases hidx : xs.findIdx? p with
  | none =>
    rw [List.findIdx?_eq_none_iff] at hidx
    simp only [idxV, kBin_eql]
    refine kSplit_t rfl (aRet_of (Sub.refl _) (hK _ _ _ hs0 ?_))
    have : xs.filter (fun e => !p e) = xs := by rw [List.filter_eq_self]; intro x hx; simp [hidx x hx]
    rw [this]; exact hv.sl
  | some i0 =>
    rw [List.findIdx?_eq_some_iff_getElem] at hidx
    obtain ⟨hi0, hpi, hbefore⟩ := hidx
    rcases hv with ⟨h, _⟩ | ⟨l, c, bk, rfl, hg, h0, hl, hck⟩
    · exact absurd hi0 (by omega)
    have hrw : bk.rw = true := by rcases hck with ⟨_, rfl, _⟩ | ⟨_, rfl⟩ <;> rfl
    simp only [idxV, kBin_eql, kBin_add]
    refine kSplit_f (by simp) ?_
    rw [wrapNat (by omega)]
    have hi0e : xs[i0]? = some xs[i0] := List.getElem?_eq_getElem hi0
    have hbf : ∀ x ∈ xs.take i0, p x = false := by
      intro x hx
      obtain ⟨j, hj⟩ := List.getElem?_of_mem hx
      rw [List.getElem?_take] at hj
      split at hj
      · rename_i hji
        have := hbefore j hji
        rw [List.getElem?_eq_getElem (by omega)] at hj
        cases hj
        simpa using this
      · cases hj
    have hf0 : (xs.take (i0 + 1)).filter (fun e => !p e) = xs.take i0 := by rw [take_add hi0e, List.filter_append, filter_take_none hbf]; simp [hpi]
    have hl0 : (xs.take i0).length = i0 := by rw [List.length_take]; omega
    refine lfp_ind (fun m t g' n' => Sub g0 g' ∧ ∃ (j : Nat) (ys : List Ev), m = xs.length - j ∧ j ≤ xs.length ∧ t 0 = .slice (some ⟨l, 0, none⟩) xs.length c ∧ t 1 = such ∧
        t 5 = .int .i64 (((xs.take j).filter fun e => !p e).length : Nat) ∧ t 6 = .int .i64 j ∧ ys.length = xs.length ∧ Blk1 encE g' l ys bk ∧ ((xs.take j).filter fun e => !p e).length < j ∧
        ys.take ((xs.take j).filter fun e => !p e).length = (xs.take j).filter (fun e => !p e) ∧ ys.drop j = xs.drop j) ?_
      (m := xs.length - (i0 + 1)) ⟨hs0, i0 + 1, xs, rfl, by omega, rfl, rfl, ?_, rfl, rfl, hg, ?_, ?_, rfl⟩
    · rintro I m t g1 n2 hI ⟨hs1, j, ys, hm, hj, t0, t1, t5, t6, hyl, hb, hfj, hyt, hyd⟩
      simp only [slices_DeleteFunc_api_Event_api_Event_l1, t0, t1, t5, t6, kLen_s, kBin_lss, kSplit_b, decide_eq_true_eq, decide_eq_false_iff_not]
      refine ⟨fun hlt => ?_, fun hge => ?_⟩
      · have hlt : j < xs.length := by omega
        have he : xs[j]? = some xs[j] := List.getElem?_eq_getElem hlt
        generalize xs[j] = e at he
        have hye : ys[j]? = some e := by
          have h1 := drop_get he
          rw [← hyd] at h1
          have : (ys.drop j)[0]? = some e := by rw [h1]; rfl
          simpa using this
        have hd1 : ys.drop (j + 1) = xs.drop (j + 1) := by
          have h1 := drop_get he
          rw [← hyd, drop_get hye] at h1
          exact (List.cons.inj h1).2
        refine kIndexAddr_s (by omega) (by omega) ?_
        simp only [kPtr_p, Int.toNat_natCast, Nat.zero_add]
        refine hb.ldN encE_len hye ?_
        intro hn2
        simp only [kAgg_a]
        refine ⟨rfl, kStN_of (upd_same _ _ _) rfl (by simp [encE]) (encE_cell e) ?_⟩
        have hs3 : Sub g1 _ := (((Sub.refl g1).new hn2 (some (.cells [(.int .i64 0), (.int .i64 0), (.int .i64 0), (.int .i64 0), (.int .u64 0)] .exact))).upd_fresh (some (.cells (encE e) .exact)) hn2)
        have hl3 : (upd (upd g1 n2 (some (.cells [(.int .i64 0), (.int .i64 0), (.int .i64 0), (.int .i64 0), (.int .u64 0)] .exact))) n2 (some (.cells (encE e) .exact))) n2 = some (.cells (encE e) .exact) := upd_same _ _ _
        refine kLdN_of (upd_same _ _ _) (by simp [encE, splice]) ?_
        refine hsuch _ _ e _ (hs1.trans hs3) (fun n3 => ?_)
        simp only [kUn_not, kSplit_b, kBin_add]
        have next : ∀ (t : Env) (g4 : G) (n1 : Nat) (zs : List Ev), Sub g0 g4 → t 0 = .slice (some ⟨l, 0, none⟩) xs.length c → t 1 = such → t 5 = .int .i64 (((xs.take (j + 1)).filter fun e => !p e).length : Nat) → t 6 = .int .i64 j → zs.length = xs.length → Blk1 encE g4 l zs bk →
            ((xs.take (j + 1)).filter fun e => !p e).length < j + 1 → zs.take ((xs.take (j + 1)).filter fun e => !p e).length = (xs.take (j + 1)).filter (fun e => !p e) → zs.drop (j + 1) = xs.drop (j + 1) → slices_DeleteFunc_api_Event_api_Event_j2 AC K I t g4 n1 := by
          intro t g4 n1 zs hs t0 t1 t5 t6 h1 h2 h3 h4 h5
          simp only [slices_DeleteFunc_api_Event_api_Event_j2, t6, kBin_add]
          rw [wrapNat (by omega)]
          exact hI (xs.length - (j + 1)) _ _ _ (by omega) ⟨hs, j + 1, zs, rfl, by omega, t0, t1, t5, rfl, h1, h2, h3, h4, h5⟩
        refine ⟨fun hpe => ?_, fun hpe => ?_⟩
        · have hpe : p e = false := by simpa using hpe
          have hf : (xs.take (j + 1)).filter (fun e => !p e) = (xs.take j).filter (fun e => !p e) ++ [e] := by rw [take_add he]; simp [hpe]
          refine kLdN_of hl3 (by simp [encE]) ?_
          refine kIndexAddr_s (by omega) (by omega) ?_
          simp only [kPtr_p, kAgg_a, Int.toNat_natCast, Nat.zero_add]
          refine ⟨rfl, (hb.mono hs3).stN (i := ((xs.take j).filter fun e => !p e).length) (y := e) encE_len encE_cell hrw (by omega) (fun hb' => ?_)⟩
          rw [wrapNat (by omega)]
          refine next _ _ _ (ys.set ((xs.take j).filter fun e => !p e).length e) ((hs1.trans hs3).upd_fresh _ h0) t0 t1 ?_ t6 (by simpa using hyl) hb' (by rw [hf]; simp; omega) ?_ ?_
          · show Value.int .i64 _ = _
            rw [hf]; simp
          · rw [hf, List.length_append, List.length_singleton, take_set_one (by omega), hyt]
          · rw [List.drop_set, if_pos (by omega)]; exact hd1
        · have hpe : p e = true := by simpa using hpe
          have hf : (xs.take (j + 1)).filter (fun e => !p e) = (xs.take j).filter (fun e => !p e) := by rw [take_add he]; simp [hpe]
          exact next _ _ _ ys (hs1.trans hs3) t0 t1 (by rw [hf]; exact t5) t6 hyl (hb.mono hs3) (by rw [hf]; omega) (by rw [hf]; exact hyt) hd1
      · have hje : j = xs.length := by omega
        subst hje
        rw [List.take_length] at hfj hyt t5
        simp only [slices_DeleteFunc_api_Event_api_Event_j3]
        show kSlice (t 0) (some (t 5)) none none 5 _
        rw [t0, t5]
        have hcc : (c < LC ∧ xs.length ≤ c) ∨ c = LC + 5 := by rcases hck with ⟨h1, _, h2⟩ | ⟨h1, _⟩ <;> omega
        refine kSlice_from hcc (by omega) (fun o' c' ho => ?_)
        rw [← hyl]
        have fin : ∀ (g4 : G) (zs : List Ev), Sub g0 g4 → zs.take (xs.filter fun e => !p e).length = xs.filter (fun e => !p e) → zs.length = ys.length → Blk1 encE g4 l zs bk → kSlice (puts t [(16, .int .i64 xs.length), (17, .slice (some ⟨l, 0, none⟩) ys.length c), (18, .int .i64 ys.length), (19, .bool (decide ((xs.length : Int) < (ys.length : Int))))] 0) none (some (puts t [(16, .int .i64 xs.length), (17, .slice (some ⟨l, 0, none⟩) ys.length c), (18, .int .i64 ys.length), (19, .bool (decide ((xs.length : Int) < (ys.length : Int))))] 5)) none 5 fun v41 => aRet K v41 g4 n2 := by
          intro g4 zs hs hz hl hb
          show kSlice (t 0) none (some (t 5)) none 5 _
          rw [t0, t5]
          refine kSlice_to hcc (by omega) (aRet_of (Sub.refl _) (hK _ _ _ hs ?_))
          have := hb.sl (i := 0) (m := (xs.filter fun e => !p e).length) (c := c) encE_len (by omega)
          rw [Nat.zero_mul, List.drop_zero, hz] at this
          exact this
        rw [hyl]
        rw [hyl] at fin
        rw [show xs.length - (xs.filter fun e => !p e).length = ys.length - (xs.filter fun e => !p e).length by rw [hyl]]
        refine Blk1.clear (y := zeroE) encE_len encE_cell hb hrw (by omega) (fun h => ho (by omega)) (fun h => fin _ ys hs1 hyt hyl hb) (fun zs h1 h2 h3 => fin _ zs (hs1.upd_fresh _ h0) (by rw [h1]; exact hyt) (by omega) h3)
    · show Value.int .i64 _ = _
      rw [hf0, hl0]
    · rw [hf0, hl0]; omega
    · rw [hf0, hl0]
end Go.Proofs.Ytncodeibkmekmaa.Gen

namespace Go.Proofs.Ytncodeibkmekmaa.Gen
open Go Go.Proofs.Ytncodeibkmekmaa.Abs Go.RowKit
variable {g : G} {n : Nat}

/-- a line: eight words -/
abbrev Ln := { w : List Int // w.length = 8 }
def encL (l : Ln) : List Value := l.1.map (.int .u64 ·)
theorem encL_len (l : Ln) : (encL l).length = 8 := by simp [encL, l.2]
theorem encL_cell (l : Ln) : ∀ v ∈ encL l, isCell v = true := by simp [encL, isCell]
def zeroL : Ln := ⟨[0, 0, 0, 0, 0, 0, 0, 0], rfl⟩
def Ln.put (l : Ln) (w : Nat) (v : Int) : Ln := ⟨l.1.set w v, by simp [l.2]⟩
theorem leaves_ints {k : IntKind} : ∀ (xs ys : List Int), xs.length = ys.length → leavesEq (List.replicate xs.length .i) (xs.map (.int k ·)) (ys.map (.int k ·)) = some (decide (xs = ys))
  | [], [], _ => rfl
  | [], _ :: _, h => by simp at h
  | _ :: _, [], h => by simp at h
  | x :: xs, y :: ys, h => by
    have ih := leaves_ints (k := k) xs ys (by simpa using h)
    simp only [List.length_cons, List.replicate_succ, List.map_cons, leavesEq, leafEq, if_true, ih, Option.some.injEq]
    rw [Bool.eq_iff_iff]; simp
theorem eqL (a b : Ln) (K : Value → Prop) (h : K (.bool (decide (a = b)))) : kBin (.agg [.i, .i, .i, .i, .i, .i, .i, .i]) .eql (.agg (encL a).toArray) (.agg (encL b).toArray) K := by
  have e := leaves_ints (k := .u64) a.1 b.1 (by rw [a.2, b.2])
  rw [a.2] at e
  have e' : leavesEq [.i, .i, .i, .i, .i, .i, .i, .i] (encL a) (encL b) = some (decide (a = b)) := by
    have : (decide (a = b)) = decide (a.1 = b.1) := by rw [Bool.eq_iff_iff]; simp [Subtype.ext_iff]
    rw [this]; exact e
  show (match leavesEq [.i, .i, .i, .i, .i, .i, .i, .i] (encL a) (encL b) with | some r => kCmp .eql r K | none => False)
  rw [e']
  exact h

theorem stores1p_spec {e : Ev} {ll : Nat} {line : Int} {bk : BK} (hl : g ll = some (.cells [.int .i64 line] bk)) {K : Cont}
    (hK : ∀ n', K (.bool (decide (e.line ≠ line))) g n') : AC persist_stores_1_id [.agg (encE e).toArray, ptr ll 0] g n K := by
  refine ACalls.fold X0_mono ?_
  rw [← persist_stores_1_eq]
  simp only [persist_stores_1, kAgg_a, kPtr_p]
  intro hn
  have hs : Sub g _ := (Sub.refl g).new hn (some (.cells (encE e) .exact))
  refine kLd_of (upd_same g n (some (.cells (encE e) .exact))) rfl ?_
  refine kLd_of (hs.live hl) rfl ?_
  simp only [kBin_neq]
  exact aRet_of hs (hK _)

def storeL (line : Int) (e : Ev) : Bool := decide (e.kind = 3) && decide (e.line = line)
theorem pstores_spec {v : Value} {xs : List Ev} {line : Int} (hv : Sl encE 5 g v xs) (hlen : xs.length < 1000000) {K : Cont}
    (hK : ∀ v' g' n', Sub g g' → Sl encE 5 g' v' (xs.filter (storeL line)) → K v' g' n') : AC persist_stores_id [v, .int .i64 line] g n K := by
  refine ACalls.fold X0_mono ?_
  rw [← persist_stores_eq]
  simp only [persist_stores]
  refine ⟨rfl, fun hn => ?_⟩
  have hs1 : Sub g _ := (Sub.refl g).new hn (some (.cells [.int .i64 line] .exact))
  have hc := upd_same g n (some (.cells [.int .i64 line] .exact))
  refine Of_spec (hv.mono hs1) hlen (fun v6 g2 n2 hs2 ho2 => ?_)
  refine DeleteFunc_Event_spec (fun e => decide (e.line ≠ line)) ho2 hs2 ?_ (Nat.lt_of_le_of_lt (List.length_filter_le _ _) hlen) ?_
  · intro g' n' e K hs hK
    exact stores1p_spec (hs.live hc) hK
  intro v' g' n' hs hsl
  refine aRet_of (Sub.refl _) (hK _ _ _ (hs1.trans hs) ?_)
  rw [List.filter_filter] at hsl
  have : (fun e : Ev => (!decide (e.line ≠ line)) && ofP 3 (-1) e) = storeL line := by
    funext e; rw [Bool.eq_iff_iff]; simp [ofP, storeL]; exact And.comm
  rw [this] at hsl
  exact hsl

/-- where the last push of a line stands, 0 if there is none -/
def lastTo (xs : List Ev) (line : Int) : Nat → Nat
  | 0 => 0
  | i + 1 => match xs[i]? with
    | some e => if e.kind = 5 ∧ e.line = line then i else lastTo xs line i
    | none => lastTo xs line i
theorem lastTo_succ (xs : List Ev) (line : Int) (i : Nat) : lastTo xs line (i + 1) = match xs[i]? with | some e => if e.kind = 5 ∧ e.line = line then i else lastTo xs line i | none => lastTo xs line i := rfl
theorem lastTo_le (xs : List Ev) (line : Int) : ∀ i, lastTo xs line i ≤ i
  | 0 => Nat.le_refl _
  | i + 1 => by
    have := lastTo_le xs line i
    unfold lastTo
    split
    · split <;> omega
    · omega
def sureN (xs : List Ev) (line : Int) : Nat := ((xs.take (lastTo xs line xs.length)).filter (storeL line)).length

theorem Sure_spec {v : Value} {xs : List Ev} {line : Int} (hv : Sl encE 5 g v xs) (hcap : Cap v 5) (hlen : xs.length < 1000000) {K : Cont}
    (hK : ∀ n', K (.int .i64 (sureN xs line)) g n') : AC persist_Sure_id [v, .int .i64 line] g n K := by
  refine ACalls.fold X0_mono ?_
  rw [← persist_Sure_eq]
  simp only [persist_Sure]
  refine hv.len ?_
  refine lfp_ind (fun m t g' n' => Sub g g' ∧ ∃ i : Nat, m = xs.length - i ∧ i ≤ xs.length ∧ t 0 = v ∧ t 1 = .int .i64 line ∧ t 5 = .int .i64 (lastTo xs line i : Nat) ∧ t 8 = v ∧ t 9 = .int .i64 xs.length ∧ t 10 = .int .i64 i) ?_
    (m := xs.length) ⟨Sub.refl _, 0, by simp, by simp, rfl, rfl, rfl, rfl, rfl, rfl⟩
  rintro I m t g1 n1 hI ⟨hs1, i, hm, hi, t0, t1, t5, t8, t9, t10⟩
  simp only [persist_Sure_l1, t0, t1, t5, t8, t9, t10, kBin_lss, kSplit_b, decide_eq_true_eq, decide_eq_false_iff_not]
  refine ⟨fun hlt => ?_, fun hge => ?_⟩
  · have hlt : i < xs.length := by omega
    have he : xs[i]? = some xs[i] := List.getElem?_eq_getElem hlt
    generalize xs[i] = e at he
    refine (hv.mono hs1).idx encE_len he (fun l o ha => ?_)
    simp only [kPtr_p]
    refine ha.ldN rfl ?_
    intro hn1
    simp only [kAgg_a]
    refine ⟨rfl, kStN_of (upd_same _ _ _) rfl (by simp [encE]) (encE_cell e) ?_⟩
    have hs3 : Sub g1 _ := (((Sub.refl g1).new hn1 (some (.cells [(.int .i64 0), (.int .i64 0), (.int .i64 0), (.int .i64 0), (.int .u64 0)] .exact))).upd_fresh (some (.cells (encE e) .exact)) hn1)
    have hl3 : (upd (upd g1 n1 (some (.cells [(.int .i64 0), (.int .i64 0), (.int .i64 0), (.int .i64 0), (.int .u64 0)] .exact))) n1 (some (.cells (encE e) .exact))) n1 = some (.cells (encE e) .exact) := upd_same _ _ _
    have no : ¬ (e.kind = 5 ∧ e.line = line) → lastTo xs line (i + 1) = lastTo xs line i := by
      intro h; rw [lastTo_succ, he]; exact if_neg h
    have yes : (e.kind = 5 ∧ e.line = line) → lastTo xs line (i + 1) = i := by
      intro h; rw [lastTo_succ, he]; exact if_pos h
    refine kLd_of hl3 rfl ?_
    simp only [kBin_eql, kSplit_b, kBin_add, decide_eq_true_eq, decide_eq_false_iff_not]
    rw [wrapNat (by omega)]
    refine ⟨fun hk => ?_, fun hk => hI (xs.length - (i + 1)) _ _ _ (by omega) ⟨hs1.trans hs3, i + 1, rfl, by omega, t0, t1, by rw [no (fun h => hk h.1)]; exact t5, t8, t9, rfl⟩⟩
    refine kLd_of hl3 rfl ?_
    simp only [kBin_eql, kSplit_b, kBin_add, decide_eq_true_eq, decide_eq_false_iff_not]
    refine ⟨fun hk2 => hI (xs.length - (i + 1)) _ _ _ (by omega) ⟨hs1.trans hs3, i + 1, rfl, by omega, t0, t1, by rw [yes ⟨hk, hk2⟩]; rfl, t8, t9, rfl⟩,
      fun hk2 => hI (xs.length - (i + 1)) _ _ _ (by omega) ⟨hs1.trans hs3, i + 1, rfl, by omega, t0, t1, by rw [no (fun h => hk2 h.2)]; exact t5, t8, t9, rfl⟩⟩
  · have : i = xs.length := by omega
    subst this
    simp only [persist_Sure_j2]
    show kSlice (t 0) none (some (t 5)) none 5 _
    rw [t0, t5]
    refine (hv.mono hs1).to encE_len hcap (lastTo_le _ _ _) (fun v' hv' _ => ?_)
    show AC _ [v', t 1] _ _ _
    rw [t1]
    refine pstores_spec hv' (by rw [List.length_take]; omega) (fun v2 g2 n2 hs2 hsl => hsl.len ?_)
    exact aRet_of (hs1.trans hs2) (hK _)

theorem splice_all {cs vs : List Value} (h : vs.length = cs.length) : splice cs 0 vs = vs := by simp [splice, h]
theorem is_spec {w : Int} {K : Cont} (hK : ∀ n', K (.bool (decide (0 ≤ w) && decide (w < 8))) g n') : AC word_is_id [.int .i64 w] g n K := by
  refine ACalls.fold X0_mono ?_
  rw [← word_is_eq]
  simp only [word_is, kBin_geq, kBin_lss, kSplit_b, decide_eq_true_eq, decide_eq_false_iff_not]
  refine ⟨fun h => aRet_of (Sub.refl _) (by simpa [h] using hK n), fun h => aRet_of (Sub.refl _) (by simpa [h] using hK n)⟩

theorem Put_spec {l : Ln} {w v : Int} {K : Cont} (hK : ∀ n', K (.agg (encL (if 0 ≤ w ∧ w < 8 then l.put w.toNat v else l)).toArray) g n') : AC word_Put_id [.agg (encL l).toArray, .int .i64 w, .int .u64 v] g n K := by
  refine ACalls.fold X0_mono ?_
  rw [← word_Put_eq]
  simp only [word_Put, kAgg_a]
  intro hn hn2
  have hs1 : Sub g _ := (Sub.refl g).new hn (some (.cells (encL l) .exact))
  have hs2 := hs1.new hn2 (some (.cells (encL zeroL) .exact))
  have hne : n ≠ n + 1 := by omega
  have hl3 : upd (upd g n (some (.cells (encL l) .exact))) (n + 1) (some (.cells (encL zeroL) .exact)) n = some (.cells (encL l) .exact) := by rw [upd_ne _ _ hne, upd_same]
  have hl6 := upd_same (upd g n (some (.cells (encL l) .exact))) (n + 1) (some (.cells (encL zeroL) .exact))
  refine is_spec fun n3 => ?_
  simp only [kSplit_b]
  refine ⟨fun h => ?_, fun h => ?_⟩
  · have h : 0 ≤ w ∧ w < 8 := by simpa using h
    refine ⟨h.1, h.2, ?_⟩
    simp only [kPtr_p, Nat.zero_add, Nat.mul_one]
    refine kSt_of hl3 rfl (by rw [encL_len]; omega) rfl ?_
    have e : (encL l).set w.toNat (.int .u64 v) = encL (l.put w.toNat v) := by simp [encL, Ln.put, List.map_set]
    rw [e]
    refine kLdN_of (upd_same _ _ _) (by rw [encL_len]; decide) ?_
    rw [List.drop_zero, List.take_of_length_le (by rw [encL_len]; exact Nat.le_refl _)]
    refine ⟨encL_len _, kStN_of (by rw [upd_ne _ _ (Ne.symm hne)]; exact hl6) rfl (by rw [encL_len, encL_len]; decide) (encL_cell _) ?_⟩
    refine kLdN_of (upd_same _ _ _) (by rw [splice_all (by rw [encL_len, encL_len]), encL_len]; decide) ?_
    rw [splice_all (by rw [encL_len, encL_len]), List.drop_zero, List.take_of_length_le (by rw [encL_len]; exact Nat.le_refl _)]
    have := hK n3
    rw [if_pos h] at this
    exact aRet_of ((hs2.upd_fresh _ hn).upd_fresh _ (hs1.none hn2)) this
  · have h : ¬ (0 ≤ w ∧ w < 8) := by simpa using h
    refine kLdN_of hl3 (by rw [encL_len]; decide) ?_
    rw [List.drop_zero, List.take_of_length_le (by rw [encL_len]; exact Nat.le_refl _)]
    refine ⟨encL_len _, kStN_of hl6 rfl (by rw [encL_len, encL_len]; decide) (encL_cell _) ?_⟩
    refine kLdN_of (upd_same _ _ _) (by rw [splice_all (by rw [encL_len, encL_len]), encL_len]; decide) ?_
    rw [splice_all (by rw [encL_len, encL_len]), List.drop_zero, List.take_of_length_le (by rw [encL_len]; exact Nat.le_refl _)]
    have := hK n3
    rw [if_neg h] at this
    exact aRet_of (hs2.upd_fresh _ (hs1.none hn2)) this
end Go.Proofs.Ytncodeibkmekmaa.Gen

namespace Go.Proofs.Ytncodeibkmekmaa.Gen
open Go Go.Proofs.Ytncodeibkmekmaa.Abs Go.RowKit
variable {g : G} {n : Nat}

def putE (l : Ln) (e : Ev) : Ln := if 0 ≤ e.word ∧ e.word < 8 then l.put e.word.toNat e.val else l
def histL : Ln → List Ev → List Ln
  | f, [] => [f]
  | f, e :: es => f :: histL (putE f e) es
theorem histL_len : ∀ (f : Ln) (es : List Ev), (histL f es).length = es.length + 1
  | f, [] => rfl
  | f, e :: es => by simp [histL, histL_len (putE f e) es]
theorem histL_zero (f : Ln) (es : List Ev) : (histL f es)[0]? = some f := by cases es <;> rfl
theorem histL_succ : ∀ (f : Ln) (es : List Ev) (i : Nat) (e : Ev) (x : Ln), es[i]? = some e → (histL f es)[i]? = some x → (histL f es)[i + 1]? = some (putE x e)
  | f, [], i, e, x, h, _ => by simp at h
  | f, e0 :: es, 0, e, x, h, hx => by
    simp at h; subst h
    rw [histL_zero] at hx
    cases hx
    show (histL (putE f e0) es)[0]? = _
    exact histL_zero _ _
  | f, e0 :: es, i + 1, e, x, h, hx => histL_succ (putE f e0) es i e x (by simpa using h) (by simpa [histL] using hx)

/-- one element of an exact slice as a slice -/
theorem kSlice_one {l c z i : Nat} {K : Value → Prop} (hc : c < LC) (hi : i < c) (k : K (.slice (some ⟨l, i * z, none⟩) 1 (c - i))) :
    kSlice (.slice (some ⟨l, 0, none⟩) c c) (some (.int .i64 i)) (some (.int .i64 ((i + 1 : Nat) : Int))) none z K := by
  simp only [kSlice, if_pos hc, kBound, kInt_i]
  refine ⟨by omega, by omega, by omega, by omega, ?_⟩
  simp only [Int.toNat_natCast]
  rw [if_neg (by omega), show i + 1 - i = 1 by omega]
  simp only [Option.map_some, addr_mk, Nat.zero_add]
  exact k

def histN (first : Ln) (xs : List Ev) (line : Int) : List Ln := histL first (xs.filter (storeL line))
theorem History_spec {first : Ln} {v : Value} {xs : List Ev} {line : Int} (hv : Sl encE 5 g v xs) (hlen : xs.length < 1000000) {K : Cont}
    (hK : ∀ v' g' n', Sub g g' → Sl encL 8 g' v' (histN first xs line) → Cap v' 8 → K v' g' n') : AC persist_History_id [.agg (encL first).toArray, v, .int .i64 line] g n K := by
  refine ACalls.fold X0_mono ?_
  rw [← persist_History_eq]
  simp only [persist_History, kAgg_a]
  intro hn
  have hs1 : Sub g _ := (Sub.refl g).new hn (some (.cells (encL first) .exact))
  have hl3 := upd_same g n (some (.cells (encL first) .exact))
  refine pstores_spec (hv.mono hs1) hlen (fun v13 g2 n2 hs2 hs => ?_)
  have hsl : (xs.filter (storeL line)).length < 1000000 := Nat.lt_of_le_of_lt (List.length_filter_le _ _) hlen
  have hH : histN first xs line = histL first (xs.filter (storeL line)) := rfl
  rw [hH] at hK
  generalize xs.filter (storeL line) = s at *
  refine hs.len ?_
  simp only [kBin_add]
  rw [wrapNat (by omega)]
  refine ⟨by omega, by omega, by omega, by omega, ?_⟩
  intro hn3
  simp only [Int.toNat_natCast]
  have hz8 : reps (s.length + 1) (encL zeroL) = ((List.replicate (s.length + 1) zeroL).map encL).flatten := flat_reps _ _
  have hs3 := (Sub.refl g2).new hn3 (some (.cells (reps (s.length + 1) (encL zeroL)) .exact))
  have hb0 : Blk1 encL (upd g2 n2 (some (.cells (reps (s.length + 1) (encL zeroL)) .exact))) n2 (List.replicate (s.length + 1) zeroL) .exact := by unfold Blk1; rw [upd_same, hz8]
  refine kLdN_of (hs3.live (hs2.live hl3)) (by rw [encL_len]; decide) ?_
  rw [List.drop_zero, List.take_of_length_le (by rw [encL_len]; exact Nat.le_refl _)]
  refine kIndexAddr_s (by omega) (by omega) ?_
  refine ⟨encL_len _, ?_⟩
  show kStN _ n2 (0 + (0 : Int).toNat * 8) (encL first) _
  have h00 : (0 + (0 : Int).toNat * 8) = 0 * 8 := rfl
  rw [h00]
  refine hb0.stN (y := first) encL_len encL_cell rfl (by simp) (fun hb1 => ?_)
  refine hs.len ?_
  have hg2l : g2 n2 = none := hn3
  have hs4 : Sub g2 _ := hs3.upd_fresh (some (.cells (((List.replicate (s.length + 1) zeroL).set 0 first).map encL).flatten .exact)) hn3
  refine lfp_ind (fun m t g' n' => Sub g2 g' ∧ ∃ (i : Nat) (ys : List Ln), m = s.length - i ∧ i ≤ s.length ∧ t 8 = .slice (some ⟨n2, 0, none⟩) (s.length + 1) (s.length + 1) ∧ t 21 = v13 ∧ t 22 = .int .i64 s.length ∧ t 23 = .int .i64 i ∧
      Blk1 encL g' n2 ys .exact ∧ ys.length = s.length + 1 ∧ ys.take (i + 1) = (histL first s).take (i + 1)) ?_
    (m := s.length) ⟨hs4, 0, (List.replicate (s.length + 1) zeroL).set 0 first, by simp, by simp, rfl, rfl, rfl, rfl, hb1, by simp, ?_⟩
  · rintro I m t g1 n1 hI ⟨hsg, i, ys, hm, hi, t8, t21, t22, t23, hb, hyl, hyt⟩
    simp only [persist_History_l1, t8, t21, t22, t23, kBin_lss, kSplit_b, decide_eq_true_eq, decide_eq_false_iff_not]
    refine ⟨fun hlt => ?_, fun hge => ?_⟩
    · have hlt : i < s.length := by omega
      have he : s[i]? = some s[i] := List.getElem?_eq_getElem hlt
      generalize s[i] = e at he
      have hHl := histL_len first s
      have hHi : (histL first s)[i]? = some (histL first s)[i] := List.getElem?_eq_getElem (by omega)
      generalize (histL first s)[i] = x at hHi
      have hHs := histL_succ first s i e x he hHi
      have hyi : ys[i]? = some x := by
        have : (ys.take (i + 1))[i]? = some x := by rw [hyt, List.getElem?_take, if_pos (by omega)]; exact hHi
        rw [List.getElem?_take, if_pos (by omega)] at this; exact this
      have hyi' : ∀ z, (ys.set (i + 1) z)[i]? = some x := fun z => by rw [List.getElem?_set_ne (by omega)]; exact hyi
      refine (hs.mono hsg).idx encE_len he (fun l o ha => ?_)
      simp only [kPtr_p]
      refine ha.ldN rfl ?_
      intro hn1
      simp only [kAgg_a]
      refine ⟨rfl, kStN_of (upd_same _ _ _) rfl (by simp [encE]) (encE_cell e) ?_⟩
      have hs5 : Sub g1 _ := (((Sub.refl g1).new hn1 (some (.cells [(.int .i64 0), (.int .i64 0), (.int .i64 0), (.int .i64 0), (.int .u64 0)] .exact))).upd_fresh (some (.cells (encE e) .exact)) hn1)
      have hl5 : (upd (upd g1 n1 (some (.cells [(.int .i64 0), (.int .i64 0), (.int .i64 0), (.int .i64 0), (.int .u64 0)] .exact))) n1 (some (.cells (encE e) .exact))) n1 = some (.cells (encE e) .exact) := upd_same _ _ _
      have hnn : n1 ≠ n2 := by intro h; subst h; exact absurd (hb.symm.trans hn1) (by simp)
      have hw : IntKind.i64.wrap ((i : Int) + 1) = ((i + 1 : Nat) : Int) := wrapNat (by omega)
      simp only [kBin_add, hw]
      have hLC : s.length + 1 < LC := by have : LC = 4611686018427387904 := rfl; omega
      refine kSlice_from (.inl ⟨hLC, Nat.le_refl _⟩) (by omega) (fun o' c' ho => ?_)
      have ho := ho (by omega)
      rw [Nat.zero_add] at ho
      subst ho
      refine kSlice_one hLC (by omega) ?_
      have hb5 := hb.mono hs5
      have hrd := hb5.sl (i := i) (m := 1) (c := s.length + 1 - i) encL_len (by omega)
      rw [show (ys.drop i).take 1 = [x] from by rw [drop_get hyi]; rfl] at hrd
      simp only [Sl, List.length_cons, List.length_nil, Nat.zero_add, List.map_cons, List.map_nil, List.flatten_cons, List.flatten_nil, List.append_nil] at hrd
      have hmin : min 1 (s.length + 1 - (i + 1)) = 1 := by omega
      simp only [kCopy, hmin]
      refine hrd.elems ⟨encL_cell _, ?_⟩
      have hnil : encL x ≠ [] := by intro h; have := encL_len x; rw [h] at this; cases this
      rw [if_neg hnil]
      refine hb5.stN (i := i + 1) (y := x) encL_len encL_cell rfl (by omega) (fun hb6 => ?_)
      have h2l : g2 n2 = none := hn3
      have hs6 := (hsg.trans hs5).upd_fresh (some (.cells ((ys.set (i + 1) x).map encL).flatten .exact)) h2l
      refine kIndexAddr_s (by omega) (by omega) ?_
      simp only [kPtr_p, Int.toNat_natCast, Nat.zero_add]
      refine hb6.ldN encL_len (x := x) (by rw [List.getElem?_set_self (by omega)]) ?_
      refine kLd_of (by rw [upd_ne _ _ hnn]; exact hl5) rfl ?_
      refine kLd_of (by rw [upd_ne _ _ hnn]; exact hl5) rfl ?_
      refine Put_spec fun n9 => ?_
      refine kIndexAddr_s (by omega) (by omega) ?_
      simp only [kPtr_p, Int.toNat_natCast, Nat.zero_add, kAgg_a]
      refine ⟨encL_len _, ?_⟩
      refine hb6.stN (i := i + 1) encL_len encL_cell rfl (by simp; omega) (fun hb7 => ?_)
      refine hI (s.length - (i + 1)) _ _ _ (by omega) ⟨hs6.upd_fresh _ h2l, i + 1, _, rfl, by omega, t8, t21, t22, rfl, hb7, by simpa using hyl, ?_⟩
      rw [take_set_one (by simp; omega), List.take_set_of_le (Nat.le_refl _), hyt]
      rw [take_add hHs]; rfl
    · have hge : i = s.length := by omega
      subst hge
      have hHl := histL_len first s
      rw [List.take_of_length_le (by omega), List.take_of_length_le (by omega)] at hyt
      subst hyt
      have := hb.sl (i := 0) (m := s.length + 1) (c := s.length + 1) encL_len (by omega)
      rw [Nat.zero_mul, List.drop_zero, List.take_of_length_le (by omega)] at this
      exact aRet_of (Sub.refl _) (hK _ _ _ (hs1.trans (hs2.trans hsg)) this (.inl ⟨by have : LC = 4611686018427387904 := rfl; omega, Nat.le_refl _⟩))
  · rw [take_set_one (by simp), List.take_zero, take_add (histL_zero first s), List.take_zero]
end Go.Proofs.Ytncodeibkmekmaa.Gen

namespace Go.Proofs.Ytncodeibkmekmaa.Gen
open Go Go.Proofs.Ytncodeibkmekmaa.Abs Go.RowKit
variable {g : G} {n : Nat}

theorem findIdx_some {α : Type} {p : α → Bool} {xs : List α} {i : Nat} {x : α} (he : xs[i]? = some x) (hp : p x = true) (hb : ∀ y ∈ xs.take i, p y = false) : xs.findIdx? p = some i := by
  have hlt := lt_of_get he
  rw [List.findIdx?_eq_some_iff_getElem]
  refine ⟨hlt, ?_, fun j hj => ?_⟩
  · rw [List.getElem?_eq_getElem hlt] at he; cases he; exact hp
  · have := hb xs[j] (List.mem_of_getElem? (i := j) (by rw [List.getElem?_take, if_pos hj, List.getElem?_eq_getElem]))
    simp [this]
theorem idx_none {α : Type} [DecidableEq α] {x : α} {xs : List α} (h : xs.findIdx? (fun y => decide (x = y)) = none) : x ∉ xs := by
  rw [List.findIdx?_eq_none_iff] at h
  exact fun hm => by simpa using h x hm
theorem idx_some {α : Type} [DecidableEq α] {x : α} {xs : List α} {i : Nat} (h : xs.findIdx? (fun y => decide (x = y)) = some i) : x ∈ xs := by
  rw [List.findIdx?_eq_some_iff_getElem] at h
  obtain ⟨hlt, hp, _⟩ := h
  have hp : x = xs[i] := by simpa using hp
  rw [hp]; exact List.getElem_mem hlt
theorem Index_Line_spec {v : Value} {x : Ln} {xs : List Ln} (hv : Sl encL 8 g v xs) (hlen : xs.length < 100000000) {K : Cont}
    (hK : ∀ n', K (idxV (xs.findIdx? fun y => decide (x = y))) g n') : AC slices_Index_api_Line_api_Line_id [v, .agg (encL x).toArray] g n K := by
  refine ACalls.fold X0_mono ?_
  rw [← slices_Index_api_Line_api_Line_eq]
  simp only [slices_Index_api_Line_api_Line, kAgg_a]
  intro hn
  have hs1 : Sub g _ := (Sub.refl g).new hn (some (.cells (encL x) .exact))
  have hl3 := upd_same g n (some (.cells (encL x) .exact))
  refine hv.len ?_
  refine lfp_ind (fun m t g' n' => g' = upd g n (some (.cells (encL x) .exact)) ∧ ∃ i : Nat, m = xs.length - i ∧ i ≤ xs.length ∧ t 0 = v ∧ t 3 = ptr n 0 ∧ t 7 = .int .i64 xs.length ∧ t 8 = .int .i64 i ∧ (∀ y ∈ xs.take i, decide (x = y) = false)) ?_
    (m := xs.length) ⟨rfl, 0, by simp, by simp, rfl, rfl, rfl, rfl, by simp⟩
  rintro I m t g1 n1 hI ⟨rfl, i, hm, hi, t0, t3, t7, t8, hp⟩
  simp only [slices_Index_api_Line_api_Line_l1, t0, t3, t7, t8, kBin_lss, kSplit_b, decide_eq_true_eq, decide_eq_false_iff_not, kPtr_p]
  refine ⟨fun hlt => ?_, fun hge => ?_⟩
  · have hlt : i < xs.length := by omega
    have he : xs[i]? = some xs[i] := List.getElem?_eq_getElem hlt
    generalize xs[i] = e at he
    refine kLdN_of hl3 (by rw [encL_len]; decide) ?_
    rw [List.drop_zero, List.take_of_length_le (by rw [encL_len]; exact Nat.le_refl _)]
    refine (hv.mono hs1).idx encL_len he (fun l o ha => ?_)
    simp only [kPtr_p]
    refine ha.ldN (encL_len e).symm (eqL _ _ _ ?_)
    simp only [kBin_add, kSplit_b, decide_eq_true_eq, decide_eq_false_iff_not]
    refine ⟨fun h => aRet_of hs1 ?_, fun h => ?_⟩
    · have := hK n1
      rw [findIdx_some he (by simpa using h) hp] at this
      exact this
    · rw [wrapNat (by omega)]
      refine hI (xs.length - (i + 1)) _ _ _ (by omega) ⟨rfl, i + 1, rfl, by omega, t0, t3, t7, rfl, ?_⟩
      intro y hy
      rw [take_add he] at hy
      rcases List.mem_append.1 hy with hy | hy
      · exact hp y hy
      · simp at hy; subst hy; simpa using h
  · have : i = xs.length := by omega
    subst this
    rw [List.take_length] at hp
    have h : xs.findIdx? (fun y => decide (x = y)) = none := by rw [List.findIdx?_eq_none_iff]; exact hp
    have := hK n1
    rw [h] at this
    exact aRet_of hs1 this

theorem Contains_Line_spec {v : Value} {x : Ln} {xs : List Ln} (hv : Sl encL 8 g v xs) (hlen : xs.length < 100000000) {K : Cont}
    (hK : ∀ n', K (.bool (decide (x ∈ xs))) g n') : AC slices_Contains_api_Line_api_Line_id [v, .agg (encL x).toArray] g n K := by
  refine ACalls.fold X0_mono ?_
  rw [← slices_Contains_api_Line_api_Line_eq]
  simp only [slices_Contains_api_Line_api_Line, kAgg_a]
  intro hn
  have hs1 : Sub g _ := (Sub.refl g).new hn (some (.cells (encL x) .exact))
  refine kLdN_of (upd_same _ _ _) (by rw [encL_len]; decide) ?_
  rw [List.drop_zero, List.take_of_length_le (by rw [encL_len]; exact Nat.le_refl _)]
  refine Index_Line_spec (hv.mono hs1) hlen (fun n1 => ?_)
  cases hf : xs.findIdx? (fun y => decide (x = y)) with
  | none =>
    have := hK n1
    rw [decide_eq_false (idx_none hf)] at this
    simp only [idxV, kBin_geq]; exact aRet_of hs1 this
  | some i =>
    have := hK n1
    rw [decide_eq_true (idx_some hf)] at this
    simp only [idxV, kBin_geq]; exact aRet_of hs1 (by rw [decide_eq_true (by omega)]; exact this)

theorem sure_le (xs : List Ev) (line : Int) : sureN xs line ≤ (xs.filter (storeL line)).length := by
  unfold sureN
  have e : xs = xs.take (lastTo xs line xs.length) ++ xs.drop (lastTo xs line xs.length) := (List.take_append_drop _ _).symm
  conv => rhs; rw [e]
  rw [List.filter_append, List.length_append]
  exact Nat.le_add_right _ _

def mayB (first left : Ln) (xs : List Ev) (line : Int) : Bool := decide (left ∈ (histN first xs line).drop (sureN xs line))
theorem May_spec {first left : Ln} {v : Value} {xs : List Ev} {line : Int} (hv : Sl encE 5 g v xs) (hcap : Cap v 5) (hlen : xs.length < 1000000) {K : Cont}
    (hK : ∀ n', K (.bool (mayB first left xs line)) g n') : AC persist_May_id [.agg (encL first).toArray, .agg (encL left).toArray, v, .int .i64 line] g n K := by
  refine ACalls.fold X0_mono ?_
  rw [← persist_May_eq]
  simp only [persist_May, kAgg_a]
  intro hn hn2
  have hs1 : Sub g _ := (Sub.refl g).new hn (some (.cells (encL first) .exact))
  have hs2 := hs1.new hn2 (some (.cells (encL left) .exact))
  have hl4 := upd_live (upd_same g n (some (.cells (encL first) .exact))) hn2 (some (.cells (encL left) .exact))
  have hl5 := upd_same (upd g n (some (.cells (encL first) .exact))) (n + 1) (some (.cells (encL left) .exact))
  refine kLdN_of hl4 (by rw [encL_len]; decide) ?_
  refine kLdN_of hl5 (by rw [encL_len]; decide) ?_
  rw [List.drop_zero, List.take_of_length_le (by rw [encL_len]; exact Nat.le_refl _), List.drop_zero, List.take_of_length_le (by rw [encL_len]; exact Nat.le_refl _)]
  refine History_spec (hv.mono hs2) hlen (fun v12 g3 n3 hs3 hsl hc => ?_)
  refine ⟨?_, ?_⟩
  · show g3 (n + 1) = _
    rw [hs3.live hl5, hl5]
  refine Sure_spec (hv.mono (hs2.trans hs3)) hcap hlen (fun n4 => ?_)
  refine ⟨rfl, ?_⟩
  have hH : (histN first xs line).length = (xs.filter (storeL line)).length + 1 := histL_len _ _
  have hsu := sure_le xs line
  have hfl := List.length_filter_le (storeL line) xs
  refine hsl.from encL_len hc (by omega) (fun v16 hv16 => ?_)
  refine Contains_Line_spec hv16 (by rw [List.length_drop]; omega) (fun n5 => ?_)
  exact aRet_of (hs2.trans hs3) (hK _)
end Go.Proofs.Ytncodeibkmekmaa.Gen

namespace Go.Proofs.Ytncodeibkmekmaa.Gen
open Go Go.Proofs.Ytncodeibkmekmaa.Abs Go.RowKit
variable {g : G} {n : Nat}

theorem Index_W_spec {v : Value} {x : Int} {xs : List Int} (hv : Sl encW 1 g v xs) (hlen : xs.length < 100000000) {K : Cont}
    (hK : ∀ n', K (idxV (xs.findIdx? fun y => decide (x = y))) g n') : AC slices_Index_uint64_uint64_id [v, .int .u64 x] g n K := by
  refine ACalls.fold X0_mono ?_
  rw [← slices_Index_uint64_uint64_eq]
  simp only [slices_Index_uint64_uint64]
  refine hv.len ?_
  refine lfp_ind (fun m t g' n' => g' = g ∧ ∃ i : Nat, m = xs.length - i ∧ i ≤ xs.length ∧ t 0 = v ∧ t 1 = .int .u64 x ∧ t 7 = .int .i64 xs.length ∧ t 8 = .int .i64 i ∧ (∀ y ∈ xs.take i, decide (x = y) = false)) ?_
    (m := xs.length) ⟨rfl, 0, by simp, by simp, rfl, rfl, rfl, rfl, by simp⟩
  rintro I m t g1 n1 hI ⟨rfl, i, hm, hi, t0, t1, t7, t8, hp⟩
  simp only [slices_Index_uint64_uint64_l1, t0, t1, t7, t8, kBin_lss, kSplit_b, decide_eq_true_eq, decide_eq_false_iff_not]
  refine ⟨fun hlt => ?_, fun hge => ?_⟩
  · have hlt : i < xs.length := by omega
    have he : xs[i]? = some xs[i] := List.getElem?_eq_getElem hlt
    generalize xs[i] = e at he
    refine hv.idx encW_len he (fun l o ha => ?_)
    simp only [kPtr_p]
    refine ha.ld (i := 0) rfl ?_
    simp only [kBin_eql, kBin_add, kSplit_b, decide_eq_true_eq, decide_eq_false_iff_not]
    refine ⟨fun h => aRet_of (Sub.refl _) ?_, fun h => ?_⟩
    · have := hK n1
      rw [findIdx_some he (by simpa using h) hp] at this
      exact this
    · rw [wrapNat (by omega)]
      refine hI (xs.length - (i + 1)) _ _ _ (by omega) ⟨rfl, i + 1, rfl, by omega, t0, t1, t7, rfl, ?_⟩
      intro y hy
      rw [take_add he] at hy
      rcases List.mem_append.1 hy with hy | hy
      · exact hp y hy
      · simp at hy; subst hy; simpa using h
  · have : i = xs.length := by omega
    subst this
    rw [List.take_length] at hp
    have h : xs.findIdx? (fun y => decide (x = y)) = none := by rw [List.findIdx?_eq_none_iff]; exact hp
    have := hK n1
    rw [h] at this
    exact aRet_of (Sub.refl _) this

theorem Contains_W_spec {v : Value} {x : Int} {xs : List Int} (hv : Sl encW 1 g v xs) (hlen : xs.length < 100000000) {K : Cont}
    (hK : ∀ n', K (.bool (decide (x ∈ xs))) g n') : AC slices_Contains_uint64_uint64_id [v, .int .u64 x] g n K := by
  refine ACalls.fold X0_mono ?_
  rw [← slices_Contains_uint64_uint64_eq]
  simp only [slices_Contains_uint64_uint64]
  refine Index_W_spec hv hlen (fun n1 => ?_)
  cases hf : xs.findIdx? (fun y => decide (x = y)) with
  | none =>
    have := hK n1
    rw [decide_eq_false (idx_none hf)] at this
    simp only [idxV, kBin_geq]; exact aRet_of (Sub.refl _) this
  | some i =>
    have := hK n1
    rw [decide_eq_true (idx_some hf)] at this
    simp only [idxV, kBin_geq]; exact aRet_of (Sub.refl _) (by rw [decide_eq_true (by omega)]; exact this)

theorem Word_spec {first left line word : Int} {v : Value} {xs : List Ev} (hv : Sl encE 5 g v xs) (hlen : xs.length < 1000000) {K : Cont}
    (hK : ∀ n', K (.bool (decide (left = first) || decide (left ∈ (xs.filter (storeP line word)).map Ev.val))) g n') : AC persist_Word_id [.int .u64 first, .int .u64 left, v, .int .i64 line, .int .i64 word] g n K := by
  refine ACalls.fold X0_mono ?_
  rw [← persist_Word_eq]
  simp only [persist_Word, kBin_eql, kSplit_b, decide_eq_true_eq, decide_eq_false_iff_not]
  refine ⟨fun h => aRet_of (Sub.refl _) (by have := hK n; rw [decide_eq_true h] at this; exact this), fun h => ?_⟩
  refine Stores_spec hv hlen (fun v18 g1 n1 hs1 ho => ?_)
  have hfl := List.length_filter_le (storeP line word) xs
  refine Contains_W_spec ho.sl (by rw [List.length_map]; omega) (fun n2 => aRet_of hs1 ?_)
  have := hK n2
  rw [decide_eq_false h] at this
  exact this

theorem store19_spec {x : Int} {K : Cont} (hK : ∀ n', K (.agg (encE ⟨3, 0, 3, 1, x⟩).toArray) g n') : AC bellowslaw19_store_id [.int .u64 x] g n K := by
  refine ACalls.fold X0_mono ?_
  rw [← bellowslaw19_store_eq]
  simp only [bellowslaw19_store]
  intro hn
  refine ⟨rfl, by decide, rfl, by decide, rfl, by decide, rfl, by decide, ?_⟩
  refine ⟨rfl, kStN_of (upd_same _ _ _) rfl (Nat.le_refl 5) (encE_cell ⟨3, 0, 3, 1, x⟩) ?_⟩
  refine kLdN_of (upd_same _ _ _) (Nat.le_refl 5) ?_
  exact aRet_of (((Sub.refl g).new hn _).upd_fresh _ hn) (hK _)

def wk19 : List Ev := [⟨3, 0, 3, 1, 1⟩, ⟨5, 0, 3, 0, 0⟩, ⟨3, 0, 3, 1, 2⟩]
def oneL : Ln := ⟨[0, 1, 0, 0, 0, 0, 0, 0], rfl⟩
theorem wakes19_spec {K : Cont} (hK : ∀ n', K (.bool true) g n') : AC bellowslaw19_wakes_id [] g n K := by
  refine ACalls.fold X0_mono ?_
  rw [← bellowslaw19_wakes_eq]
  simp only [bellowslaw19_wakes]
  refine store19_spec fun n1 => ?_
  refine ⟨rfl, by decide, rfl, by decide, ?_⟩
  refine store19_spec fun n2 => ?_
  refine ⟨rfl, by decide, rfl, by decide, rfl, by decide, ?_⟩
  intro hn
  have hs1 : Sub g _ := (Sub.refl g).new hn (some (.cells (wk19.map encE).flatten .exact))
  have hsl : Sl encE 5 _ (.slice (some ⟨n2, 0, none⟩) 3 3) wk19 := Rd.lit (upd_same g n2 (some (.cells (wk19.map encE).flatten .exact))) rfl
  have hcap : Cap (.slice (some ⟨n2, 0, none⟩) 3 3) 5 := .inl ⟨by decide, by decide⟩
  refine History_spec (first := zeroL) hsl (by decide) (fun v9 g4 n4 hs4 hh _ => ?_)
  rw [show histN zeroL wk19 3 = [zeroL, oneL, zeroL.put 1 2] from by decide] at hh
  refine hh.len ?_
  simp only [kBin_eql]
  refine kSplit_t rfl ?_
  refine hh.idx (j := 2) encL_len rfl (fun l o ha => ?_)
  refine ⟨by decide, by decide, ?_⟩
  simp only [kPtr_p]
  refine ha.ld (i := 1) rfl ?_
  simp only [kBin_eql]
  refine kSplit_t rfl ?_
  refine Sure_spec (hsl.mono hs4) hcap (by decide) (fun n5 => ?_)
  simp only [kBin_eql]
  refine kSplit_t (by decide) ?_
  refine May_spec (first := zeroL) (left := zeroL) (hsl.mono hs4) hcap (by decide) (fun n6 => ?_)
  simp only [kUn_not]
  refine kSplit_t (by decide) ?_
  refine ⟨rfl, by decide, rfl, by decide, ?_⟩
  refine May_spec (first := zeroL) (left := oneL) (hsl.mono hs4) hcap (by decide) (fun n7 => ?_)
  refine kSplit_t (by decide) ?_
  refine Word_spec (hsl.mono hs4) (by decide) (fun n8 => ?_)
  exact aRet_of (hs1.trans hs4) (hK _)
end Go.Proofs.Ytncodeibkmekmaa.Gen

namespace Go.Proofs.Ytncodeibkmekmaa.Gen
open Go Go.Proofs.Ytncodeibkmekmaa.Abs Go.RowKit
variable {g : G} {n : Nat}

def encB (i : Int) : List Value := [.int .u8 i]
theorem encB_len (i : Int) : (encB i).length = 1 := rfl
theorem encB_cell (i : Int) : ∀ v ∈ encB i, isCell v = true := by simp [encB, isCell]
def ev3 (k w x : Int) : List Ev := [⟨3, 0, k, w, x + 1⟩, ⟨3, 0, k + 1, w, 7⟩, ⟨5, 0, k + 1, 0, 0⟩]
def evA (k w : Int) (xs : List Int) : List Ev := (xs.map (ev3 k w)).flatten
def evB (k w : Int) (ys : List Int) : List Ev := ys.map fun y => ⟨3, 0, k, w, y + 1000⟩
theorem evA_len (k w : Int) : ∀ xs : List Int, (evA k w xs).length = 3 * xs.length
  | [] => rfl
  | x :: xs => by simp only [evA, List.map_cons, List.flatten_cons, List.length_append, List.length_cons] at *; have := evA_len k w xs; simp only [evA] at this; rw [this]; simp [ev3]; omega
theorem evA_snoc (k w : Int) (xs : List Int) (x : Int) : evA k w (xs ++ [x]) = evA k w xs ++ ev3 k w x := by simp [evA]
def evs (k w : Int) (xs ys : List Int) : List Ev := evA k w xs ++ [⟨5, 0, k, 0, 0⟩] ++ evB k w ys

/-- the plain law: what the history of the built events is -/
theorem evs_stores (k w : Int) (xs ys : List Int) : (evs k w xs ys).filter (storeL k) = (xs.map fun x => (⟨3, 0, k, w, x + 1⟩ : Ev)) ++ evB k w ys := by
  have hA : ∀ xs : List Int, (evA k w xs).filter (storeL k) = xs.map fun x => (⟨3, 0, k, w, x + 1⟩ : Ev) := by
    intro xs
    induction xs with
    | nil => rfl
    | cons x xs ih =>
      have e : evA k w (x :: xs) = ev3 k w x ++ evA k w xs := by simp [evA]
      rw [e, List.filter_append, ih]
      have h1 : ¬ (k + 1 = k) := by omega
      simp [ev3, storeL, h1]
  have hB : (evB k w ys).filter (storeL k) = evB k w ys := by
    rw [List.filter_eq_self]; intro e he; obtain ⟨y, _, rfl⟩ := List.mem_map.1 he; simp [storeL]
  simp only [evs, List.filter_append, hA, hB]
  simp [storeL]
theorem lastTo_none {xs : List Ev} {line : Int} {i j : Nat} (hij : i ≤ j) (h : ∀ m, i ≤ m → m < j → ∀ e, xs[m]? = some e → ¬ (e.kind = 5 ∧ e.line = line)) : lastTo xs line j = lastTo xs line i := by
  induction j with
  | zero => have : i = 0 := by omega
            subst this; rfl
  | succ j ih =>
    by_cases e : i = j + 1
    · subst e; rfl
    · rw [← ih (by omega) (fun m h1 h2 => h m h1 (by omega)), lastTo_succ]
      split
      · rename_i e he
        exact if_neg (h j (by omega) (by omega) e he)
      · rfl
theorem evs_last (k w : Int) (xs ys : List Int) : lastTo (evs k w xs ys) k (evs k w xs ys).length = 3 * xs.length := by
  have hl := evA_len k w xs
  have hlen : (evs k w xs ys).length = 3 * xs.length + 1 + ys.length := by simp [evs, evB, hl]; omega
  have hp : (evs k w xs ys)[3 * xs.length]? = some ⟨5, 0, k, 0, 0⟩ := by
    unfold evs
    rw [List.append_assoc, List.getElem?_append_right (by omega), hl]; simp
  rw [lastTo_none (i := 3 * xs.length + 1) (by omega)]
  · rw [lastTo_succ, hp]; simp
  · intro m h1 h2 e he hk
    unfold evs at he
    rw [List.getElem?_append_right (by simp; omega)] at he
    obtain ⟨y, _, rfl⟩ := List.mem_map.1 (List.mem_of_getElem? he)
    simp at hk
theorem evs_sure (k w : Int) (xs ys : List Int) : sureN (evs k w xs ys) k = xs.length := by
  unfold sureN
  rw [evs_last]
  have : (evs k w xs ys).take (3 * xs.length) = evA k w xs := by
    unfold evs
    rw [List.append_assoc, ← evA_len k w xs, List.take_left]
  rw [this]
  have := evs_stores k w xs []
  simp only [evs, evB, List.map_nil, List.append_nil, List.filter_append] at this
  have h2 : ([⟨5, 0, k, 0, 0⟩] : List Ev).filter (storeL k) = [] := by simp [storeL]
  rw [h2, List.append_nil] at this
  rw [this, List.length_map]

/-- the history of stores to one word -/
theorem histL_same (k w : Int) (hw : 0 ≤ w ∧ w < 8) : ∀ (l : Ln) (vs : List Int), histL l (vs.map fun v => (⟨3, 0, k, w, v⟩ : Ev)) = l :: vs.map fun v => l.put w.toNat v
  | l, [] => rfl
  | l, v :: vs => by
    have ih := histL_same k w hw (l.put w.toNat v) vs
    have e : putE l ⟨3, 0, k, w, v⟩ = l.put w.toNat v := by unfold putE; rw [if_pos hw]
    simp only [List.map_cons, histL, e, ih]
    congr 2
    refine List.map_congr_left fun u _ => ?_
    simp [Ln.put]

def atL (w : Int) (xs : List Int) : Ln := match xs.getLast? with
  | none => zeroL
  | some x => zeroL.put w.toNat (x + 1)
theorem evs_hist (k w : Int) (hw : 0 ≤ w ∧ w < 8) (xs ys : List Int) : histN zeroL (evs k w xs ys) k = zeroL :: ((xs.map (· + 1)) ++ ys.map (· + 1000)).map fun v => zeroL.put w.toNat v := by
  unfold histN
  rw [evs_stores]
  have e : (xs.map fun x => (⟨3, 0, k, w, x + 1⟩ : Ev)) ++ evB k w ys = ((xs.map (· + 1)) ++ ys.map (· + 1000)).map fun v => (⟨3, 0, k, w, v⟩ : Ev) := by simp only [evB, List.map_append, List.map_map]; rfl
  rw [e, histL_same k w hw]
theorem evs_tail (k w : Int) (hw : 0 ≤ w ∧ w < 8) (xs ys : List Int) : (histN zeroL (evs k w xs ys) k).drop (sureN (evs k w xs ys) k) = atL w xs :: ys.map fun y => zeroL.put w.toNat (y + 1000) := by
  rw [evs_hist k w hw, evs_sure]
  rcases List.eq_nil_or_concat xs with rfl | ⟨zs, x, rfl⟩
  · simp [atL]
  · have hl : (zs ++ [x]).length = zs.length + 1 := by simp
    simp only [List.concat_eq_append, hl, List.drop_succ_cons, List.map_append, List.append_assoc]
    rw [List.drop_left' (by simp)]
    simp [atL]
theorem put_inj {w : Nat} (hw : w < 8) {a b : Int} (h : zeroL.put w a = zeroL.put w b) : a = b := by
  have h1 : (zeroL.put w a).1[w]? = (zeroL.put w b).1[w]? := by rw [h]
  simp only [Ln.put] at h1
  rw [List.getElem?_set_self (by rw [zeroL.2]; exact hw), List.getElem?_set_self (by rw [zeroL.2]; exact hw)] at h1
  exact Option.some.inj h1
theorem zero_put {w : Nat} (hw : w < 8) : zeroL = zeroL.put w 0 := by
  apply Subtype.ext
  have : w = 0 ∨ w = 1 ∨ w = 2 ∨ w = 3 ∨ w = 4 ∨ w = 5 ∨ w = 6 ∨ w = 7 := by omega
  rcases this with rfl | rfl | rfl | rfl | rfl | rfl | rfl | rfl <;> rfl
theorem may_iff (k w : Int) (hw : 0 ≤ w ∧ w < 8) (xs ys : List Int) (x : Ln) : mayB zeroL x (evs k w xs ys) k = true ↔ x = atL w xs ∨ ∃ y ∈ ys, x = zeroL.put w.toNat (y + 1000) := by
  unfold mayB
  rw [decide_eq_true_eq, evs_tail k w hw]
  simp only [List.mem_cons, List.mem_map]
  constructor
  · rintro (h | ⟨y, hy, rfl⟩)
    · exact .inl h
    · exact .inr ⟨y, hy, rfl⟩
  · rintro (h | ⟨y, hy, rfl⟩)
    · exact .inl h
    · exact .inr ⟨y, hy, rfl⟩
end Go.Proofs.Ytncodeibkmekmaa.Gen

namespace Go.Proofs.Ytncodeibkmekmaa.Gen
open Go Go.Proofs.Ytncodeibkmekmaa.Abs Go.RowKit
variable {g : G} {n : Nat}

theorem kFill_ev4 {a b c d : Int} {K : List Value → Prop} (k : K (encE ⟨a, 0, b, c, d⟩)) : kFill (encE zeroE) [(0, none, .int .i64 a), (2, none, .int .i64 b), (3, none, .int .i64 c), (4, none, .int .u64 d)] K :=
  ⟨rfl, by simp [encE], rfl, by simp [encE], rfl, by simp [encE], rfl, by simp [encE], k⟩
theorem kFill_ev2 {a b : Int} {K : List Value → Prop} (k : K (encE ⟨a, 0, b, 0, 0⟩)) : kFill (encE zeroE) [(0, none, .int .i64 a), (2, none, .int .i64 b)] K :=
  ⟨rfl, by simp [encE], rfl, by simp [encE], k⟩
theorem kFill_3 {e1 e2 e3 : Ev} {K : List Value → Prop} (k : K (([e1, e2, e3].map encE).flatten)) :
    kFill (reps 3 (encE zeroE)) [(0, some 5, .agg (encE e1).toArray), (5, some 5, .agg (encE e2).toArray), (10, some 5, .agg (encE e3).toArray)] K :=
  ⟨rfl, by simp [reps, encE], rfl, by simp [reps, encE, splice], rfl, by simp [reps, encE, splice], k⟩
theorem kFill_1 {e1 : Ev} {K : List Value → Prop} (k : K (encE e1)) : kFill (reps 1 (encE zeroE)) [(0, some 5, .agg (encE e1).toArray)] K :=
  ⟨rfl, by simp [reps, encE], k⟩


theorem kBin_beq' {p q : Bool} {K : Value → Prop} (h : K (.bool (p == q))) : kBin .bool .eql (.bool p) (.bool q) K := h
theorem ldL {l : Nat} {x : Ln} {bk : BK} {K : List Value → Prop} (h : g l = some (.cells (encL x) bk)) (k : K (encL x)) : kLdN g l 0 8 K := by
  refine kLdN_of h (by rw [encL_len]; decide) ?_
  rw [List.drop_zero, List.take_of_length_le (by rw [encL_len]; exact Nat.le_refl _)]; exact k
theorem putL {l : Nat} {x : Ln} {w : Int} {v : Int} {K : Value → Nat → Nat → G → Prop} (hw : 0 ≤ w ∧ w < 8) (h : g l = some (.cells (encL x) .exact))
    (k : ∀ p l' o, upd g l (some (.cells (encL (x.put w.toNat v)) .exact)) l = some (.cells (encL (x.put w.toNat v)) .exact) → K p l' o (upd g l (some (.cells (encL (x.put w.toNat v)) .exact)))) :
    kIndexArr (ptr l 0) (.int .i64 w) 8 1 fun p => kPtr p fun l' o => kSt g l' o (.int .u64 v) (K p l' o) := by
  refine ⟨hw.1, hw.2, ?_⟩
  simp only [kPtr_p]
  refine kSt_of h rfl (by rw [encL_len]; omega) rfl ?_
  have e : (encL x).set (0 + w.toNat * 1) (.int .u64 v) = encL (x.put w.toNat v) := by simp [encL, Ln.put, List.map_set]
  rw [e]
  exact k _ _ _ (upd_same _ _ _)
section
variable {a0 a1 v9 : Value} {k w : Int} {xs ys : List Int} {gg : G} {K : Cont} {l12 : Nat}
/-- what is known behind the built events -/
structure PM (g gg : G) (a0 a1 v9 : Value) (k w : Int) (xs ys : List Int) (K : Cont) : Prop where
  hw : 0 ≤ w ∧ w < 8
  hx : ∀ x ∈ xs, 0 ≤ x ∧ x ≤ 255
  hy : ∀ x ∈ ys, 0 ≤ x ∧ x ≤ 255
  hxl : xs.length ≤ 40
  hyl : ys.length ≤ 40
  h0 : Sl encB 1 g a0 xs
  h1 : Sl encB 1 g a1 ys
  hs : Sub g gg
  hv : Sl encE 5 gg v9 (evs k w xs ys)
  hcap : Cap v9 5
  hK : ∀ n', K (.bool true) g n'
theorem PM.len (P : PM g gg a0 a1 v9 k w xs ys K) : (evs k w xs ys).length < 1000000 := by
  have := P.hxl; have := P.hyl
  simp [evs, evB, evA_len]; omega
theorem PM_j9 (P : PM g gg a0 a1 v9 k w xs ys K) {t : Env} {gh : G} (hs : Sub gg gh) (t0 : t 0 = a0) (t7 : t 7 = .int .i64 k) (t9 : t 9 = v9) : bellowslaw19_PersistMoments_j9 AC K t gh n := by
  have hw8 : w.toNat < 8 := by have := P.hw; omega
  simp only [bellowslaw19_PersistMoments_j9, t0, t7, t9]
  refine May_spec (first := zeroL) (left := zeroL) (P.hv.mono hs) P.hcap P.len (fun n2 => ?_)
  refine (P.h0.mono (P.hs.trans hs)).len ?_
  simp only [kBin_eql]
  refine kBin_beq' (kSplit_t ?_ (wakes19_spec fun n' => aRet_of (P.hs.trans hs) (P.hK _)))
  rw [beq_iff_eq, Bool.eq_iff_iff, may_iff k w P.hw, decide_eq_true_eq]
  constructor
  · rintro (h | ⟨y, hy, h⟩)
    · unfold atL at h
      cases hl : xs.getLast? with
      | none => rw [List.getLast?_eq_none_iff] at hl; subst hl; rfl
      | some x =>
        rw [hl] at h
        have := put_inj hw8 ((zero_put hw8).symm.trans h)
        have := P.hx x (List.mem_of_getLast? hl)
        omega
    · have := put_inj hw8 ((zero_put hw8).symm.trans h)
      have := P.hy y hy
      omega
  · intro h
    have : xs = [] := List.eq_nil_of_length_eq_zero (by omega)
    subst this
    exact .inl rfl
theorem PM_j7 (P : PM g gg a0 a1 v9 k w xs ys K) {t : Env} {gh : G} (hs : Sub gg gh) (hl12 : gh l12 = some (.cells (encL (atL w xs)) .exact)) (t0 : t 0 = a0) (t7 : t 7 = .int .i64 k) (t8 : t 8 = .int .i64 w) (t9 : t 9 = v9) (t12 : t 12 = ptr l12 0) : bellowslaw19_PersistMoments_j7 AC K t gh n := by
  have hw8 : w.toNat < 8 := by have := P.hw; omega
  unfold bellowslaw19_PersistMoments_j7
  refine lfp_ind (fun m t g' n' => Sub gh g' ∧ ∃ i : Nat, m = xs.length - i ∧ i ≤ xs.length ∧ t 0 = a0 ∧ t 7 = .int .i64 k ∧ t 8 = .int .i64 w ∧ t 9 = v9 ∧ t 12 = ptr l12 0 ∧ t 15 = .int .i64 i) ?_
    (m := xs.length) ⟨Sub.refl _, 0, by simp, by simp, t0, t7, t8, t9, t12, rfl⟩
  rintro I m t g1 n1 hI ⟨hs1, i, hm, hi, t0, t7, t8, t9, t12, t15⟩
  simp only [bellowslaw19_PersistMoments_l8, t0, t7, t8, t9, t12, t15]
  have hg := P.hs.trans (hs.trans hs1)
  refine (P.h0.mono hg).len ?_
  simp only [kBin_lss, kSplit_b, decide_eq_true_eq, decide_eq_false_iff_not]
  refine ⟨fun hlt => ?_, fun hge => PM_j9 P (hs.trans hs1) t0 t7 t9⟩
  have hlt : i < xs.length := by omega
  have he : xs[i]? = some xs[i] := List.getElem?_eq_getElem hlt
  generalize xs[i] = x at he
  have hxr := P.hx x (List.mem_of_getElem? he)
  have hxl := P.hxl
  intro hn
  generalize hgen : upd g1 n1 (some (Blk.cells [.int .u64 0, .int .u64 0, .int .u64 0, .int .u64 0, .int .u64 0, .int .u64 0, .int .u64 0, .int .u64 0] BK.exact)) = g2
  have hl : g2 n1 = some (.cells (encL zeroL) .exact) := by rw [← hgen]; exact upd_same _ _ _
  have hs2 : Sub g1 g2 := by rw [← hgen]; exact (Sub.refl g1).new hn _
  refine (P.h0.mono (hg.trans hs2)).idx encB_len he (fun l o ha => ?_)
  simp only [kPtr_p]
  refine ha.ld (i := 0) rfl ?_
  simp only [kConv_i, kBin_add]
  rw [IntWalk.u64_in x ⟨by omega, by omega⟩, IntWalk.u64_in (x + 1) ⟨by omega, by omega⟩]
  refine putL P.hw hl (fun _ _ _ hl2 => ?_)
  have hs3 := hs2.upd_fresh (some (.cells (encL (zeroL.put w.toNat (x + 1))) .exact)) hn
  simp only [kFill_nil]
  refine ldL hl2 (ldL hl2 (ldL (hs3.live (hs1.live hl12)) (eqL _ _ _ ?_)))
  refine May_spec (first := zeroL) (left := zeroL.put w.toNat (x + 1)) (P.hv.mono (hs.trans (hs1.trans hs3))) P.hcap P.len (fun n2 => ?_)
  refine ⟨rfl, rfl, ?_⟩
  have hb : mayB zeroL (zeroL.put w.toNat (x + 1)) (evs k w xs ys) k = decide (zeroL.put w.toNat (x + 1) = atL w xs) := by
    rw [Bool.eq_iff_iff, may_iff k w P.hw, decide_eq_true_eq]
    constructor
    · rintro (h | ⟨y, hy, h⟩)
      · exact h
      · have := put_inj hw8 h
        have := P.hy y hy
        omega
    · exact fun h => .inl h
  rw [hb]
  simp only [kBin_bneq]
  refine kSplit_f (by simp) ?_
  rw [wrapNat (by omega)]
  exact hI (xs.length - (i + 1)) _ _ _ (by omega) ⟨hs1.trans hs3, i + 1, rfl, by omega, t0, t7, t8, t9, t12, rfl⟩
end
end Go.Proofs.Ytncodeibkmekmaa.Gen

namespace Go.Proofs.Ytncodeibkmekmaa.Gen
open Go Go.Proofs.Ytncodeibkmekmaa.Abs Go.RowKit
variable {g : G} {n : Nat}
section
variable {a0 a1 v9 : Value} {k w : Int} {xs ys : List Int} {gg : G} {K : Cont} {l12 : Nat}
theorem PM_j5 (P : PM g gg a0 a1 v9 k w xs ys K) {t : Env} {gh : G} (hs : Sub gg gh) (hl12 : gh l12 = some (.cells (encL (atL w xs)) .exact)) (t0 : t 0 = a0) (t1 : t 1 = a1) (t7 : t 7 = .int .i64 k) (t8 : t 8 = .int .i64 w) (t9 : t 9 = v9) (t12 : t 12 = ptr l12 0) : bellowslaw19_PersistMoments_j5 AC K t gh n := by
  have hw8 : w.toNat < 8 := by have := P.hw; omega
  simp only [bellowslaw19_PersistMoments_j5, t7, t9, t12, kFill_nil, kPtr_p]
  refine ldL hl12 ?_
  refine May_spec (first := zeroL) (left := atL w xs) (P.hv.mono hs) P.hcap P.len (fun n2 => ?_)
  rw [(may_iff k w P.hw xs ys (atL w xs)).2 (.inl rfl)]
  simp only [kUn_not]
  refine kSplit_f rfl ?_
  refine lfp_ind (fun m t g' n' => Sub gh g' ∧ ∃ i : Nat, m = ys.length - i ∧ i ≤ ys.length ∧ t 0 = a0 ∧ t 1 = a1 ∧ t 7 = .int .i64 k ∧ t 8 = .int .i64 w ∧ t 9 = v9 ∧ t 12 = ptr l12 0 ∧ t 13 = .int .i64 i) ?_
    (m := ys.length) ⟨Sub.refl _, 0, by simp, by simp, t0, t1, t7, t8, t9, t12, rfl⟩
  rintro I m t g1 n1 hI ⟨hs1, i, hm, hi, t0, t1, t7, t8, t9, t12, t13⟩
  simp only [bellowslaw19_PersistMoments_l6, t1, t7, t8, t9, t13]
  have hg := P.hs.trans (hs.trans hs1)
  refine (P.h1.mono hg).len ?_
  simp only [kBin_lss, kSplit_b, decide_eq_true_eq, decide_eq_false_iff_not]
  refine ⟨fun hlt => ?_, fun hge => PM_j7 P (hs.trans hs1) (hs1.live hl12) t0 t7 t8 t9 t12⟩
  have hlt : i < ys.length := by omega
  have he : ys[i]? = some ys[i] := List.getElem?_eq_getElem hlt
  generalize hx : ys[i] = x at he
  have hxr := P.hy x (List.mem_of_getElem? he)
  have hyl := P.hyl
  intro hn
  generalize hgen : upd g1 n1 (some (Blk.cells [.int .u64 0, .int .u64 0, .int .u64 0, .int .u64 0, .int .u64 0, .int .u64 0, .int .u64 0, .int .u64 0] BK.exact)) = g2
  have hl : g2 n1 = some (.cells (encL zeroL) .exact) := by rw [← hgen]; exact upd_same _ _ _
  have hs2 : Sub g1 g2 := by rw [← hgen]; exact (Sub.refl g1).new hn _
  refine (P.h1.mono (hg.trans hs2)).idx encB_len he (fun l o ha => ?_)
  simp only [kPtr_p]
  refine ha.ld (i := 0) rfl ?_
  simp only [kConv_i, kBin_add]
  rw [IntWalk.u64_in x ⟨by omega, by omega⟩, IntWalk.u64_in (x + 1000) ⟨by omega, by omega⟩]
  refine putL P.hw hl (fun _ _ _ hl2 => ?_)
  have hs3 := hs2.upd_fresh (some (.cells (encL (zeroL.put w.toNat (x + 1000))) .exact)) hn
  simp only [kFill_nil]
  refine ldL hl2 ?_
  refine May_spec (first := zeroL) (left := zeroL.put w.toNat (x + 1000)) (P.hv.mono (hs.trans (hs1.trans hs3))) P.hcap P.len (fun n2 => ?_)
  rw [(may_iff k w P.hw xs ys _).2 (.inr ⟨x, List.mem_of_getElem? he, rfl⟩)]
  simp only [kUn_not]
  refine kSplit_f rfl ?_
  rw [wrapNat (by omega)]
  exact hI (ys.length - (i + 1)) _ _ _ (by omega) ⟨hs1.trans hs3, i + 1, rfl, by omega, t0, t1, t7, t8, t9, t12, rfl⟩
theorem PM_j4 (P : PM g gg a0 a1 v9 k w xs ys K) {t : Env} (t0 : t 0 = a0) (t1 : t 1 = a1) (t7 : t 7 = .int .i64 k) (t8 : t 8 = .int .i64 w) (t9 : t 9 = v9) : bellowslaw19_PersistMoments_j4 AC K t gg n := by
  have hw8 : w.toNat < 8 := by have := P.hw; omega
  have hxl := P.hxl
  have hyl := P.hyl
  simp only [bellowslaw19_PersistMoments_j4, t0, t1, t7, t8, t9]
  refine Sure_spec P.hv P.hcap P.len (fun n2 => ?_)
  rw [evs_sure]
  refine (P.h0.mono P.hs).len ?_
  simp only [kBin_neq]
  refine kSplit_f (by simp) ?_
  refine History_spec (first := zeroL) P.hv P.len (fun v92 g3 n3 hs3 hh _ => hh.len ?_)
  refine (P.h0.mono (P.hs.trans hs3)).len ?_
  refine (P.h1.mono (P.hs.trans hs3)).len ?_
  simp only [kBin_add, kBin_neq]
  rw [wrap64_of (a := (xs.length : Int) + ys.length) (by omega) (by omega), wrap64_of (by omega) (by omega)]
  have hHl : (histN zeroL (evs k w xs ys) k).length = xs.length + ys.length + 1 := by rw [evs_hist k w P.hw]; simp
  refine kSplit_f (by rw [hHl]; simp) ?_
  intro hn
  generalize hgen : upd g3 n3 (some (Blk.cells [.int .u64 0, .int .u64 0, .int .u64 0, .int .u64 0, .int .u64 0, .int .u64 0, .int .u64 0, .int .u64 0] BK.exact)) = g4
  have hl : g4 n3 = some (.cells (encL zeroL) .exact) := by rw [← hgen]; exact upd_same _ _ _
  have hs4 : Sub g3 g4 := by rw [← hgen]; exact (Sub.refl g3).new hn _
  refine ⟨rfl, ?_⟩
  refine kStN_of (vs := encL zeroL) hl rfl (by rw [encL_len]; decide) (encL_cell _) ?_
  rw [splice_all rfl]
  generalize hgen5 : upd g4 n3 (some (Blk.cells (encL zeroL) BK.exact)) = g5
  have hl5 : g5 n3 = some (.cells (encL zeroL) .exact) := by rw [← hgen5]; exact upd_same _ _ _
  have hs5 : Sub gg g5 := by rw [← hgen5]; exact (hs3.trans hs4).upd_fresh _ (hs3.none hn)
  have hg5 := P.hs.trans hs5
  refine (P.h0.mono hg5).len ?_
  simp only [kBin_gtr, kSplit_b, decide_eq_true_eq, decide_eq_false_iff_not]
  refine ⟨fun hpos => ?_, fun hz => ?_⟩
  · have hpos : 0 < xs.length := by omega
    refine (P.h0.mono hg5).len ?_
    simp only [kBin_sub]
    rw [wrap64_of (by omega) (by omega), show (xs.length : Int) - 1 = ((xs.length - 1 : Nat) : Int) by omega]
    have he : xs[xs.length - 1]? = some xs[xs.length - 1] := List.getElem?_eq_getElem (by omega)
    have hat : atL w xs = zeroL.put w.toNat (xs[xs.length - 1] + 1) := by unfold atL; rw [List.getLast?_eq_getElem?, he]
    generalize xs[xs.length - 1] = x at he hat
    have hxr := P.hx x (List.mem_of_getElem? he)
    refine (P.h0.mono hg5).idx encB_len he (fun l o ha => ?_)
    simp only [kPtr_p]
    refine ha.ld (i := 0) rfl ?_
    simp only [kConv_i, kBin_add]
    rw [IntWalk.u64_in x ⟨by omega, by omega⟩, IntWalk.u64_in (x + 1) ⟨by omega, by omega⟩]
    refine putL P.hw hl5 (fun _ _ _ hl2 => ?_)
    rw [← hat] at hl2 ⊢
    exact PM_j5 P (hs5.upd_fresh _ (hs3.none hn)) hl2 t0 t1 t7 t8 t9 rfl
  · have : xs = [] := List.eq_nil_of_length_eq_zero (by omega)
    have hat : atL w xs = zeroL := by subst this; rfl
    exact PM_j5 P hs5 (by rw [hat]; exact hl5) t0 t1 t7 t8 t9 rfl
end
end Go.Proofs.Ytncodeibkmekmaa.Gen

namespace Go.Proofs.Ytncodeibkmekmaa.Gen
open Go Go.Proofs.Ytncodeibkmekmaa.Abs Go.RowKit
variable {g : G} {n : Nat}
theorem evB_snoc (k w : Int) (ys : List Int) (y : Int) : evB k w (ys ++ [y]) = evB k w ys ++ [⟨3, 0, k, w, y + 1000⟩] := by simp [evB]
theorem evB_len (k w : Int) (ys : List Int) : (evB k w ys).length = ys.length := by simp [evB]

theorem PersistMoments_spec {a0 a1 : Value} {xs ys : List Int} {n0 n1 : Int} (h0 : Sl encB 1 g a0 xs) (h1 : Sl encB 1 g a1 ys) (hx : ∀ x ∈ xs, 0 ≤ x ∧ x ≤ 255) (hy : ∀ x ∈ ys, 0 ≤ x ∧ x ≤ 255) (hn0 : 0 ≤ n0 ∧ n0 ≤ 255) (hn1 : 0 ≤ n1 ∧ n1 ≤ 255)
    {K : Cont} (hK : ∀ n', K (.bool true) g n') : AC bellowslaw19_PersistMoments_id [a0, a1, .agg [.int .u8 n0, .int .u8 n1].toArray] g n K := by
  refine ACalls.fold X0_mono ?_
  rw [← bellowslaw19_PersistMoments_eq]
  simp only [bellowslaw19_PersistMoments, kAgg_a]
  intro hn
  have hs1 : Sub g _ := (Sub.refl g).new hn (some (.cells [.int .u8 n0, .int .u8 n1] .exact))
  have hl5 := upd_same g n (some (.cells [.int .u8 n0, .int .u8 n1] .exact))
  generalize upd g n (some (.cells [.int .u8 n0, .int .u8 n1] .exact)) = g1 at *
  have h0' := h0.mono hs1
  have h1' := h1.mono hs1
  refine h0'.len ?_
  simp only [kBin_gtr, kSplit_b, decide_eq_true_eq, decide_eq_false_iff_not]
  refine ⟨fun _ => wakes19_spec fun n' => aRet_of hs1 (hK _), fun hxl => ?_⟩
  refine h1'.len ?_
  simp only [kBin_gtr, kSplit_b, decide_eq_true_eq, decide_eq_false_iff_not]
  refine ⟨fun _ => wakes19_spec fun n' => aRet_of hs1 (hK _), fun hyl => ?_⟩
  refine ⟨by decide, by decide, ?_⟩
  simp only [kPtr_p]
  refine kLd_of hl5 rfl ?_
  simp only [kConv_i, kBin_rem]
  refine ⟨by decide, by decide, by decide, ?_⟩
  simp only [kPtr_p]
  refine kLd_of hl5 rfl ?_
  simp only [kConv_i, kBin_rem]
  refine ⟨by decide, ?_⟩
  rw [wrap64_of (a := n0) (by omega) (by omega), wrap64_of (a := n1) (by omega) (by omega)]
  have hk : 0 ≤ n0.tmod 8 ∧ n0.tmod 8 < 8 := by rw [Int.tmod_eq_emod_of_nonneg hn0.1]; omega
  have hw : 0 ≤ n1.tmod 8 ∧ n1.tmod 8 < 8 := by rw [Int.tmod_eq_emod_of_nonneg hn1.1]; omega
  generalize n0.tmod 8 = k at *
  generalize n1.tmod 8 = w at *
  have hxl : xs.length ≤ 40 := by omega
  have hyl : ys.length ≤ 40 := by omega
  refine lfp_ind (fun m t g' n' => Sub g1 g' ∧ ∃ i : Nat, m = xs.length - i ∧ i ≤ xs.length ∧ t 0 = a0 ∧ t 1 = a1 ∧ t 7 = .int .i64 k ∧ t 8 = .int .i64 w ∧ t 10 = .int .i64 i ∧ OwnS encE 5 g1 g' (t 9) (evA k w (xs.take i))) ?_
    (m := xs.length) ⟨Sub.refl _, 0, by simp, by simp, rfl, rfl, rfl, rfl, rfl, OwnS.nil⟩
  rintro I m t g2 n2 hI ⟨hs2, i, hm, hi, t0, t1, t7, t8, t10, ho⟩
  simp only [bellowslaw19_PersistMoments_l1, t0, t7, t8, t10]
  refine (h0'.mono hs2).len ?_
  simp only [kBin_lss, kSplit_b, decide_eq_true_eq, decide_eq_false_iff_not]
  have hAl := evA_len k w (xs.take i)
  rw [List.length_take] at hAl
  refine ⟨fun hlt => ?_, fun hge => ?_⟩
  · have hlt : i < xs.length := by omega
    have he : xs[i]? = some xs[i] := List.getElem?_eq_getElem hlt
    generalize xs[i] = x at he
    have hxr := hx x (List.mem_of_getElem? he)
    refine (h0'.mono hs2).idx encB_len he (fun l o ha => ?_)
    simp only [kPtr_p]
    refine ha.ld (i := 0) rfl ?_
    simp only [kConv_i, kBin_add]
    rw [IntWalk.u64_in x ⟨by omega, by omega⟩, IntWalk.u64_in (x + 1) ⟨by omega, by omega⟩, wrap64_of (a := k + 1) (by omega) (by omega)]
    refine kFill_ev4 (kFill_ev4 (kFill_ev2 (kFill_3 ?_)))
    intro hn4
    have hs4 := (Sub.refl g2).new hn4 (some (.cells (([⟨3, 0, k, w, x + 1⟩, ⟨3, 0, k + 1, w, 7⟩, ⟨5, 0, k + 1, 0, 0⟩] : List Ev).map encE).flatten .exact))
    have hsl : Sl encE 5 _ (.slice (some ⟨n2, 0, none⟩) 3 3) (ev3 k w x) := Rd.lit (upd_same g2 n2 (some (.cells (([⟨3, 0, k, w, x + 1⟩, ⟨3, 0, k + 1, w, 7⟩, ⟨5, 0, k + 1, 0, 0⟩] : List Ev).map encE).flatten .exact))) rfl
    refine (ho.mono hs4).append (hs2.trans hs4) hsl encE_cell (by decide) (by simp [ev3]; omega) (by simp [ev3]; omega) (fun v' g' n' hs' ho' _ _ => ?_)
    rw [wrapNat (by omega)]
    refine hI (xs.length - (i + 1)) _ _ _ (by omega) ⟨hs', i + 1, rfl, by omega, t0, t1, t7, t8, rfl, ?_⟩
    rw [take_add he, evA_snoc]; exact ho'
  · have : i = xs.length := by omega
    subst this
    rw [List.take_length] at ho hAl
    simp only [bellowslaw19_PersistMoments_j2]
    show kFill _ [_, (2, none, t 7)] _
    rw [t7]
    refine kFill_ev2 (kFill_1 ?_)
    intro hn4
    have hs4 := (Sub.refl g2).new hn4 (some (.cells (encE ⟨5, 0, k, 0, 0⟩) .exact))
    refine OwnS.append (v := t 9) (ho.mono hs4) (hs2.trans hs4) (Sl.one (x := ⟨5, 0, k, 0, 0⟩) (encE_len _) (upd_same _ _ _)) encE_cell (by decide) (by simp; omega) (by simp; omega) (fun v' g' n' hs' ho' _ _ => ?_)
    refine lfp_ind (fun m t g' n' => Sub g1 g' ∧ ∃ i : Nat, m = ys.length - i ∧ i ≤ ys.length ∧ t 0 = a0 ∧ t 1 = a1 ∧ t 7 = .int .i64 k ∧ t 8 = .int .i64 w ∧ t 11 = .int .i64 i ∧ OwnS encE 5 g1 g' (t 9) (evs k w xs (ys.take i))) ?_
      (m := ys.length) ⟨hs', 0, by simp, by simp, t0, t1, t7, t8, rfl, by show OwnS encE 5 g1 g' v' _; simpa [evs, evB] using ho'⟩
    rintro J m' t g3 n3 hJ ⟨hs3, j, hm', hj, t0, t1, t7, t8, t11, ho⟩
    simp only [bellowslaw19_PersistMoments_l3, t1, t7, t8, t11]
    refine (h1'.mono hs3).len ?_
    simp only [kBin_lss, kSplit_b, decide_eq_true_eq, decide_eq_false_iff_not]
    refine ⟨fun hlt => ?_, fun hge => ?_⟩
    · have hlt : j < ys.length := by omega
      have he : ys[j]? = some ys[j] := List.getElem?_eq_getElem hlt
      generalize ys[j] = x at he
      have hxr := hy x (List.mem_of_getElem? he)
      refine (h1'.mono hs3).idx encB_len he (fun l o ha => ?_)
      simp only [kPtr_p]
      refine ha.ld (i := 0) rfl ?_
      simp only [kConv_i, kBin_add]
      rw [IntWalk.u64_in x ⟨by omega, by omega⟩, IntWalk.u64_in (x + 1000) ⟨by omega, by omega⟩]
      refine kFill_ev4 (kFill_1 ?_)
      intro hn5
      have hs5 := (Sub.refl g3).new hn5 (some (.cells (encE ⟨3, 0, k, w, x + 1000⟩) .exact))
      have hEl : (evs k w xs (ys.take j)).length ≤ 200 := by simp [evs, evB, evA_len]; omega
      refine (ho.mono hs5).append (hs3.trans hs5) (Sl.one (x := ⟨3, 0, k, w, x + 1000⟩) (encE_len _) (upd_same _ _ _)) encE_cell (by decide) (by simp; omega) (by simp; omega) (fun v' g' n' hs' ho' _ _ => ?_)
      rw [wrapNat (by omega)]
      refine hJ (ys.length - (j + 1)) _ _ _ (by omega) ⟨hs', j + 1, rfl, by omega, t0, t1, t7, t8, rfl, ?_⟩
      rw [take_add he]; show OwnS encE 5 g1 g' v' _; simpa [evs, evB_snoc] using ho'
    · have : j = ys.length := by omega
      subst this
      rw [List.take_length] at ho
      exact PM_j4 ⟨hw, hx, hy, hxl, hyl, h0, h1, hs1.trans hs3, ho.sl, ho.cap, hK⟩ t0 t1 t7 t8 rfl
end Go.Proofs.Ytncodeibkmekmaa.Gen
