import Derived.Test.YtncodeibkmekmaaGenArrayPlays
/- What the functions come to. -/
set_option linter.all false
set_option linter.deprecated false
namespace Go.Proofs.Ytncodeibkmekmaa.Gen
open Go Go.Proofs.Ytncodeibkmekmaa.Abs Go.RowKit
variable {g : G} {n : Nat}
abbrev AC : CT := ACalls Try.prog (XE Try.prog)
theorem X0_mono : XMono (XE Try.prog) := XE_mono
/-- a call of plain values that an evaluation tells -/
theorem AC_ev {f : FuncId} {args : List Value} {K : Cont} (v : Value) (fuel depth : Nat) (h1 : plain 3 v = true) (h2 : args.all (plain 3) = true) (h3 : ecalls Try.prog fuel depth f args .nil 0 (fun v' _ _ => sameV v' v) = true) (hK : ∀ n', K v g n') : AC f args g n K :=
  fun C hC => hC.2 _ _ _ _ _ ⟨v, fuel, depth, h1, h2, h3, hK⟩

/-- events -/
structure Ev where
  kind : Int
  core : Int
  line : Int
  word : Int
  val : Int
  deriving DecidableEq
def encE (e : Ev) : List Value := [.int .i64 e.kind, .int .i64 e.core, .int .i64 e.line, .int .i64 e.word, .int .u64 e.val]
theorem encE_len (e : Ev) : (encE e).length = 5 := rfl
theorem encE_cell (e : Ev) : ∀ v ∈ encE e, isCell v = true := by simp [encE, isCell]

theorem val_spec (e : Ev) {K : Cont} (hK : ∀ n', K (.int .u64 e.val) g n') : AC trace_val_id [.agg (encE e).toArray] g n K := by
  refine ACalls.fold X0_mono ?_
  rw [← trace_val_eq]
  simp only [trace_val, kAgg_a]
  intro hn
  refine kLd_of (upd_same _ _ _) rfl ?_
  exact aRet_of ((Sub.refl g).new hn _) (hK _)

theorem itself_spec (e : Ev) {K : Cont} (hK : ∀ n', K (.agg (encE e).toArray) g n') : AC trace_itself_id [.agg (encE e).toArray] g n K := by
  refine ACalls.fold X0_mono ?_
  rw [← trace_itself_eq]
  simp only [trace_itself, kAgg_a]
  intro hn hn'
  have hs : Sub g (upd g n (some (.cells (encE e) .exact))) := (Sub.refl g).new hn _
  have e1 := upd_live (upd_same g n (some (.cells (encE e) .exact))) hn' (some (.cells [(.int .i64 0), (.int .i64 0), (.int .i64 0), (.int .i64 0), (.int .u64 0)] .exact))
  refine kLdN_of e1 (by simp [encE]) ?_
  refine ⟨rfl, kStN_of (upd_same _ _ _) rfl (by simp [encE]) (by simp [encE, isCell]) ?_⟩
  refine kLdN_of (upd_same _ _ _) (by simp [encE, splice]) ?_
  refine aRet_of (((hs.new hn' _).upd_fresh _ (hs.none hn'))) (hK _)


theorem chosenE_spec {v such conv : Value} (p : Ev → Bool) (f : Ev → Ev) {xs : List Ev} (hv : Sl encE 5 g v xs)
    (hsuch : ∀ (g' : G) (n' : Nat) (e : Ev) (K : Cont), Sub g g' → (∀ n, K (.bool (p e)) g' n) → kCall AC such [.agg (encE e).toArray] g' n' K)
    (has : ∀ (g' : G) (n' : Nat) (e : Ev) (K : Cont), Sub g g' → (∀ n, K ((fun e : Ev => Value.agg (encE e).toArray) (f e)) g' n) → kCall AC conv [.agg (encE e).toArray] g' n' K)
    (hlen : xs.length < 1000000) {K : Cont} (hK : ∀ v' g' n', Sub g g' → OwnS encE 5 g g' v' ((xs.filter p).map f) → K v' g' n') : AC trace_chosen_api_Event_api_Event_id [v, such, conv] g n K := by
  refine ACalls.fold X0_mono ?_
  rw [← trace_chosen_api_Event_api_Event_eq]
  simp only [trace_chosen_api_Event_api_Event]
  refine hv.len ?_
  refine lfp_ind (fun m t g' n' => ∃ i, m = xs.length - i ∧ i ≤ xs.length ∧ t 1 = such ∧ t 2 = conv ∧ t 10 = v ∧ t 11 = .int .i64 xs.length ∧ t 12 = .int .i64 i ∧ Sub g g' ∧ OwnS encE 5 g g' (t 7) (((xs.take i).filter p).map f)) ?_
    (m := xs.length) ⟨0, by simp, by simp, rfl, rfl, rfl, rfl, rfl, Sub.refl g, OwnS.nil⟩
  rintro I m t g1 n1 hI ⟨i, hm, hi, h1, h2, h10, h11, h12, hs, ho⟩
  simp only [trace_chosen_api_Event_api_Event_l1, h1, h2, h10, h11, h12, kBin_lss, kSplit_b]
  refine ⟨fun hlt => ?_, fun hge => ?_⟩
  · have hlt : i < xs.length := by simpa using hlt
    have he : xs[i]? = some xs[i] := List.getElem?_eq_getElem hlt
    generalize xs[i] = e at he
    have htk : xs.take (i + 1) = xs.take i ++ [e] := by rw [List.take_add_one, he]; rfl
    refine (hv.mono hs).idx encE_len he (fun l o ha => ?_)
    simp only [kPtr_p]
    refine ha.ldN rfl ?_
    intro hn1
    simp only [kAgg_a]
    refine ⟨rfl, kStN_of (upd_same _ _ _) rfl (by simp [encE]) (encE_cell e) ?_⟩
    have hs3 : Sub g1 _ := (((Sub.refl g1).new hn1 (some (.cells [(.int .i64 0), (.int .i64 0), (.int .i64 0), (.int .i64 0), (.int .u64 0)] .exact))).upd_fresh (some (.cells (encE e) .exact)) hn1)
    have hl3 : (upd (upd g1 n1 (some (.cells [(.int .i64 0), (.int .i64 0), (.int .i64 0), (.int .i64 0), (.int .u64 0)] .exact))) n1 (some (.cells (encE e) .exact))) n1 = some (.cells (encE e) .exact) := upd_same _ _ _
    refine kLdN_of (upd_same _ _ _) (by simp [encE, splice]) ?_
    refine hsuch _ _ e _ (hs.trans hs3) (fun n2 => ?_)
    simp only [kSplit_b]
    have hw : IntKind.i64.wrap ((i : Int) + 1) = ((i + 1 : Nat) : Int) := wrapNat (by omega)
    refine ⟨fun hp => ?_, fun hp => ?_⟩
    · refine kLdN_of hl3 (by simp [encE]) ?_
      refine has _ _ e _ (hs.trans hs3) (fun n3 => ?_)
      refine ⟨rfl, by decide, ?_⟩
      intro hn4
      have hs5 := hs3.new hn4 (some (.cells (encE (f e)) .exact))
      have hcnt : ((xs.take i).filter p).length ≤ i := Nat.le_trans (List.length_filter_le _ _) (by rw [List.length_take]; omega)
      refine OwnS.append (ho.mono hs5) (hs.trans hs5) (Sl.one (x := f e) (encE_len _) (upd_same _ _ _)) encE_cell (by decide) (by simp; omega) (by simp; omega) (fun v' g' n' hs' ho' _ _ => ?_)
      simp only [kBin_add, hw]
      refine hI (xs.length - (i + 1)) _ _ _ (by omega) ⟨i + 1, rfl, by omega, h1, h2, h10, h11, rfl, hs', ?_⟩
      have e2 : ((xs.take (i + 1)).filter p).map f = ((xs.take i).filter p).map f ++ [f e] := by simp [htk, hp]
      rw [e2]; exact ho'
    · simp only [kBin_add, hw]
      refine hI (xs.length - (i + 1)) _ _ _ (by omega) ⟨i + 1, rfl, by omega, h1, h2, h10, h11, rfl, hs.trans hs3, ?_⟩
      have e2 : ((xs.take (i + 1)).filter p).map f = ((xs.take i).filter p).map f := by simp [htk, hp]
      rw [e2]; exact ho.mono hs3
  · have hge : i = xs.length := by have : ¬ i < xs.length := by simpa using hge
                                   omega
    subst hge
    rw [List.take_length] at ho
    exact aRet_of (Sub.refl _) (hK _ _ _ hs ho)

theorem chosenW_spec {v such conv : Value} (p : Ev → Bool) (f : Ev → Int) {xs : List Ev} (hv : Sl encE 5 g v xs)
    (hsuch : ∀ (g' : G) (n' : Nat) (e : Ev) (K : Cont), Sub g g' → (∀ n, K (.bool (p e)) g' n) → kCall AC such [.agg (encE e).toArray] g' n' K)
    (has : ∀ (g' : G) (n' : Nat) (e : Ev) (K : Cont), Sub g g' → (∀ n, K ((fun e : Int => Value.int .u64 e) (f e)) g' n) → kCall AC conv [.agg (encE e).toArray] g' n' K)
    (hlen : xs.length < 1000000) {K : Cont} (hK : ∀ v' g' n', Sub g g' → OwnS encW 1 g g' v' ((xs.filter p).map f) → K v' g' n') : AC trace_chosen_api_Event_uint64_id [v, such, conv] g n K := by
  refine ACalls.fold X0_mono ?_
  rw [← trace_chosen_api_Event_uint64_eq]
  simp only [trace_chosen_api_Event_uint64]
  refine hv.len ?_
  refine lfp_ind (fun m t g' n' => ∃ i, m = xs.length - i ∧ i ≤ xs.length ∧ t 1 = such ∧ t 2 = conv ∧ t 10 = v ∧ t 11 = .int .i64 xs.length ∧ t 12 = .int .i64 i ∧ Sub g g' ∧ OwnS encW 1 g g' (t 7) (((xs.take i).filter p).map f)) ?_
    (m := xs.length) ⟨0, by simp, by simp, rfl, rfl, rfl, rfl, rfl, Sub.refl g, OwnS.nil⟩
  rintro I m t g1 n1 hI ⟨i, hm, hi, h1, h2, h10, h11, h12, hs, ho⟩
  simp only [trace_chosen_api_Event_uint64_l1, h1, h2, h10, h11, h12, kBin_lss, kSplit_b]
  refine ⟨fun hlt => ?_, fun hge => ?_⟩
  · have hlt : i < xs.length := by simpa using hlt
    have he : xs[i]? = some xs[i] := List.getElem?_eq_getElem hlt
    generalize xs[i] = e at he
    have htk : xs.take (i + 1) = xs.take i ++ [e] := by rw [List.take_add_one, he]; rfl
    refine (hv.mono hs).idx encE_len he (fun l o ha => ?_)
    simp only [kPtr_p]
    refine ha.ldN rfl ?_
    intro hn1
    simp only [kAgg_a]
    refine ⟨rfl, kStN_of (upd_same _ _ _) rfl (by simp [encE]) (encE_cell e) ?_⟩
    have hs3 : Sub g1 _ := (((Sub.refl g1).new hn1 (some (.cells [(.int .i64 0), (.int .i64 0), (.int .i64 0), (.int .i64 0), (.int .u64 0)] .exact))).upd_fresh (some (.cells (encE e) .exact)) hn1)
    have hl3 : (upd (upd g1 n1 (some (.cells [(.int .i64 0), (.int .i64 0), (.int .i64 0), (.int .i64 0), (.int .u64 0)] .exact))) n1 (some (.cells (encE e) .exact))) n1 = some (.cells (encE e) .exact) := upd_same _ _ _
    refine kLdN_of (upd_same _ _ _) (by simp [encE, splice]) ?_
    refine hsuch _ _ e _ (hs.trans hs3) (fun n2 => ?_)
    simp only [kSplit_b]
    have hw : IntKind.i64.wrap ((i : Int) + 1) = ((i + 1 : Nat) : Int) := wrapNat (by omega)
    refine ⟨fun hp => ?_, fun hp => ?_⟩
    · refine kLdN_of hl3 (by simp [encE]) ?_
      refine has _ _ e _ (hs.trans hs3) (fun n3 => ?_)
      refine ⟨rfl, by decide, ?_⟩
      intro hn4
      have hs5 := hs3.new hn4 (some (.cells (encW (f e)) .exact))
      have hcnt : ((xs.take i).filter p).length ≤ i := Nat.le_trans (List.length_filter_le _ _) (by rw [List.length_take]; omega)
      refine OwnS.append (ho.mono hs5) (hs.trans hs5) (Sl.one (x := f e) (encW_len _) (upd_same _ _ _)) encW_cell (by decide) (by simp; omega) (by simp; omega) (fun v' g' n' hs' ho' _ _ => ?_)
      simp only [kBin_add, hw]
      refine hI (xs.length - (i + 1)) _ _ _ (by omega) ⟨i + 1, rfl, by omega, h1, h2, h10, h11, rfl, hs', ?_⟩
      have e2 : ((xs.take (i + 1)).filter p).map f = ((xs.take i).filter p).map f ++ [f e] := by simp [htk, hp]
      rw [e2]; exact ho'
    · simp only [kBin_add, hw]
      refine hI (xs.length - (i + 1)) _ _ _ (by omega) ⟨i + 1, rfl, by omega, h1, h2, h10, h11, rfl, hs.trans hs3, ?_⟩
      have e2 : ((xs.take (i + 1)).filter p).map f = ((xs.take i).filter p).map f := by simp [htk, hp]
      rw [e2]; exact ho.mono hs3
  · have hge : i = xs.length := by have : ¬ i < xs.length := by simpa using hge
                                   omega
    subst hge
    rw [List.take_length] at ho
    exact aRet_of (Sub.refl _) (hK _ _ _ hs ho)
end Go.Proofs.Ytncodeibkmekmaa.Gen

namespace Go.Proofs.Ytncodeibkmekmaa.Gen
open Go Go.Proofs.Ytncodeibkmekmaa.Abs Go.RowKit
variable {g : G} {n : Nat}

theorem of1_spec {e : Ev} {lk lc : Nat} {kind core : Int} {bk bk' : BK} (hk : g lk = some (.cells [.int .i64 kind] bk)) (hc : g lc = some (.cells [.int .i64 core] bk')) {K : Cont}
    (hK : ∀ n', K (.bool ((decide (kind = 0) || decide (e.kind = kind)) && (decide (core = -1) || decide (e.core = core)))) g n') : AC trace_Of_1_id [.agg (encE e).toArray, ptr lk 0, ptr lc 0] g n K := by
  refine ACalls.fold X0_mono ?_
  rw [← trace_Of_1_eq]
  simp only [trace_Of_1, kAgg_a, kPtr_p]
  intro hn
  have hs : Sub g _ := (Sub.refl g).new hn (some (.cells (encE e) .exact))
  have h1 := upd_same g n (some (.cells (encE e) .exact))
  have fin : ∀ b n', b = ((decide (kind = 0) || decide (e.kind = kind)) && (decide (core = -1) || decide (e.core = core))) → aRet K (.bool b) (upd g n (some (.cells (encE e) .exact))) n' := fun b n' hb => aRet_of hs (hb ▸ hK _)
  refine kLd_of (hs.live hk) rfl ?_
  simp only [kBin_eql, kSplit_b, decide_eq_true_eq, decide_eq_false_iff_not]
  have tail : ∀ b, b = (decide (kind = 0) || decide (e.kind = kind)) → b = true → kLd (upd g n (some (.cells (encE e) .exact))) lc 0 fun v14 => kBin .int .eql v14 (.int .i64 (-1)) fun v15 => kSplit v15 (aRet K (.bool true) (upd g n (some (.cells (encE e) .exact))) (n + 1))
      (kLd (upd g n (some (.cells (encE e) .exact))) n (0 + 1) fun v18 => kLd (upd g n (some (.cells (encE e) .exact))) lc 0 fun v19 => kBin .int .eql v18 v19 fun v20 => aRet K v20 (upd g n (some (.cells (encE e) .exact))) (n + 1)) := by
    intro b hb hbt
    refine kLd_of (hs.live hc) rfl ?_
    simp only [kBin_eql, kSplit_b, decide_eq_true_eq, decide_eq_false_iff_not]
    refine ⟨fun h => fin _ _ (by rw [← hb, hbt]; simp [h]), fun h => ?_⟩
    refine kLd_of h1 rfl ?_
    refine kLd_of (hs.live hc) rfl ?_
    simp only [kBin_eql]
    exact fin _ _ (by rw [← hb, hbt]; simp [h])
  refine ⟨fun h => tail _ rfl (by simp [h]), fun h => ?_⟩
  refine kLd_of h1 rfl ?_
  refine kLd_of (hs.live hk) rfl ?_
  simp only [kBin_eql, kSplit_b, decide_eq_true_eq, decide_eq_false_iff_not]
  refine ⟨fun h => tail _ rfl (by simp [h]), fun h' => fin _ _ (by simp [h, h'])⟩

theorem tells1_spec {e : Ev} {lc : Nat} {core : Int} {bk' : BK} (hc : g lc = some (.cells [.int .i64 core] bk')) {K : Cont}
    (hK : ∀ n', K (.bool (decide (e.kind = 8) && decide (e.core = core))) g n') : AC trace_Tells_1_id [.agg (encE e).toArray, ptr lc 0] g n K := by
  refine ACalls.fold X0_mono ?_
  rw [← trace_Tells_1_eq]
  simp only [trace_Tells_1, kAgg_a, kPtr_p]
  intro hn
  have hs : Sub g _ := (Sub.refl g).new hn (some (.cells (encE e) .exact))
  have h1 := upd_same g n (some (.cells (encE e) .exact))
  refine kLd_of h1 rfl ?_
  simp only [kBin_eql, kSplit_b, decide_eq_true_eq, decide_eq_false_iff_not]
  refine ⟨fun h => ?_, fun h => aRet_of hs (by simpa [h] using hK _)⟩
  refine kLd_of h1 rfl ?_
  refine kLd_of (hs.live hc) rfl ?_
  simp only [kBin_eql]
  exact aRet_of hs (by simpa [h] using hK _)

theorem stores1_spec {e : Ev} {ll lw : Nat} {line word : Int} {bk bk' : BK} (hl : g ll = some (.cells [.int .i64 line] bk)) (hw : g lw = some (.cells [.int .i64 word] bk')) {K : Cont}
    (hK : ∀ n', K (.bool (decide (e.kind = 3) && (decide (e.line = line) && decide (e.word = word)))) g n') : AC trace_Stores_1_id [.agg (encE e).toArray, ptr ll 0, ptr lw 0] g n K := by
  refine ACalls.fold X0_mono ?_
  rw [← trace_Stores_1_eq]
  simp only [trace_Stores_1, kAgg_a, kPtr_p]
  intro hn
  have hs : Sub g _ := (Sub.refl g).new hn (some (.cells (encE e) .exact))
  have h1 := upd_same g n (some (.cells (encE e) .exact))
  refine kLd_of h1 rfl ?_
  simp only [kBin_eql, kSplit_b, decide_eq_true_eq, decide_eq_false_iff_not]
  refine ⟨fun h => ?_, fun h => aRet_of hs (by simpa [h] using hK _)⟩
  refine kLd_of h1 rfl ?_
  refine kLd_of (hs.live hl) rfl ?_
  simp only [kBin_eql, kSplit_b, decide_eq_true_eq, decide_eq_false_iff_not]
  refine ⟨fun h2 => ?_, fun h2 => aRet_of hs (by simpa [h, h2] using hK _)⟩
  refine kLd_of h1 rfl ?_
  refine kLd_of (hs.live hw) rfl ?_
  simp only [kBin_eql]
  exact aRet_of hs (by simpa [h, h2] using hK _)

def ofP (kind core : Int) (e : Ev) : Bool := (decide (kind = 0) || decide (e.kind = kind)) && (decide (core = -1) || decide (e.core = core))
theorem Of_spec {v : Value} {xs : List Ev} {kind core : Int} (hv : Sl encE 5 g v xs) (hlen : xs.length < 1000000) {K : Cont}
    (hK : ∀ v' g' n', Sub g g' → OwnS encE 5 g g' v' (xs.filter (ofP kind core)) → K v' g' n') : AC trace_Of_id [v, .int .i64 kind, .int .i64 core] g n K := by
  refine ACalls.fold X0_mono ?_
  rw [← trace_Of_eq]
  simp only [trace_Of]
  refine ⟨rfl, fun hn => ⟨rfl, fun hn2 => ?_⟩⟩
  have hs1 : Sub g _ := (Sub.refl g).new hn (some (.cells [.int .i64 kind] .exact))
  have hs2 := hs1.new hn2 (some (.cells [.int .i64 core] .exact))
  have hk := upd_live (upd_same g n (some (.cells [.int .i64 kind] .exact))) hn2 (some (.cells [.int .i64 core] .exact))
  have hc := upd_same (upd g n (some (.cells [.int .i64 kind] .exact))) (n + 1) (some (.cells [.int .i64 core] .exact))
  refine chosenE_spec (ofP kind core) (fun e => e) (hv.mono hs2) ?_ ?_ hlen ?_
  · intro g' n' e K hs hK
    exact of1_spec (hs.live hk) (hs.live hc) hK
  · intro g' n' e K hs hK
    exact itself_spec e hK
  · intro v' g' n' hs ho
    refine aRet_of (Sub.refl _) (hK _ _ _ (hs2.trans hs) ?_)
    rw [List.map_id'] at ho
    exact ho.base hs2

def tellP (core : Int) (e : Ev) : Bool := decide (e.kind = 8) && decide (e.core = core)
theorem Tells_spec {v : Value} {xs : List Ev} {core : Int} (hv : Sl encE 5 g v xs) (hlen : xs.length < 1000000) {K : Cont}
    (hK : ∀ v' g' n', Sub g g' → OwnS encW 1 g g' v' ((xs.filter (tellP core)).map Ev.val) → K v' g' n') : AC trace_Tells_id [v, .int .i64 core] g n K := by
  refine ACalls.fold X0_mono ?_
  rw [← trace_Tells_eq]
  simp only [trace_Tells]
  refine ⟨rfl, fun hn => ?_⟩
  have hs1 : Sub g _ := (Sub.refl g).new hn (some (.cells [.int .i64 core] .exact))
  have hc := upd_same g n (some (.cells [.int .i64 core] .exact))
  refine chosenW_spec (tellP core) Ev.val (hv.mono hs1) ?_ ?_ hlen ?_
  · intro g' n' e K hs hK
    exact tells1_spec (hs.live hc) hK
  · intro g' n' e K hs hK
    exact val_spec e hK
  · intro v' g' n' hs ho
    exact aRet_of (Sub.refl _) (hK _ _ _ (hs1.trans hs) (ho.base hs1))

def storeP (line word : Int) (e : Ev) : Bool := decide (e.kind = 3) && (decide (e.line = line) && decide (e.word = word))
theorem Stores_spec {v : Value} {xs : List Ev} {line word : Int} (hv : Sl encE 5 g v xs) (hlen : xs.length < 1000000) {K : Cont}
    (hK : ∀ v' g' n', Sub g g' → OwnS encW 1 g g' v' ((xs.filter (storeP line word)).map Ev.val) → K v' g' n') : AC trace_Stores_id [v, .int .i64 line, .int .i64 word] g n K := by
  refine ACalls.fold X0_mono ?_
  rw [← trace_Stores_eq]
  simp only [trace_Stores]
  refine ⟨rfl, fun hn => ⟨rfl, fun hn2 => ?_⟩⟩
  have hs1 : Sub g _ := (Sub.refl g).new hn (some (.cells [.int .i64 line] .exact))
  have hs2 := hs1.new hn2 (some (.cells [.int .i64 word] .exact))
  have hk := upd_live (upd_same g n (some (.cells [.int .i64 line] .exact))) hn2 (some (.cells [.int .i64 word] .exact))
  have hc := upd_same (upd g n (some (.cells [.int .i64 line] .exact))) (n + 1) (some (.cells [.int .i64 word] .exact))
  refine chosenW_spec (storeP line word) Ev.val (hv.mono hs2) ?_ ?_ hlen ?_
  · intro g' n' e K hs hK
    exact stores1_spec (hs.live hk) (hs.live hc) hK
  · intro g' n' e K hs hK
    exact val_spec e hK
  · intro v' g' n' hs ho
    exact aRet_of (Sub.refl _) (hK _ _ _ (hs2.trans hs) (ho.base hs2))

theorem Words_spec {v w : Value} {xs ys : List Int} (hv : Sl encW 1 g v xs) (hw : Sl encW 1 g w ys) (hlen : xs.length < 1000000) {K : Cont}
    (hK : ∀ n', K (.bool (decide (xs = ys))) g n') : AC bellowskeep_Words_id [v, w] g n K := by
  refine ACalls.fold X0_mono ?_
  rw [← bellowskeep_Words_eq]
  simp only [bellowskeep_Words]
  refine hv.len (hw.len ?_)
  simp only [kBin_neq, kSplit_b, decide_eq_true_eq, decide_eq_false_iff_not]
  refine ⟨fun h => aRet_of (Sub.refl _) ?_, fun h => ?_⟩
  · have : xs ≠ ys := fun e => h (by rw [e])
    simpa [this] using hK n
  have hl : xs.length = ys.length := by omega
  refine lfp_ind (fun m t g' n' => g' = g ∧ ∃ i : Nat, m = xs.length - i ∧ i ≤ xs.length ∧ t 0 = v ∧ t 1 = w ∧ t 5 = .int .i64 i ∧ xs.take i = ys.take i) ?_
    (m := xs.length) ⟨rfl, 0, by simp, by simp, rfl, rfl, rfl, rfl⟩
  rintro I m t g1 n1 hI ⟨rfl, i, hm, hi, h0, h1, h5, hp⟩
  simp only [bellowskeep_Words_l1, h0, h1, h5]
  refine hv.len ?_
  simp only [kBin_lss, kSplit_b, decide_eq_true_eq, decide_eq_false_iff_not]
  refine ⟨fun hlt => ?_, fun hge => ?_⟩
  · have hlt : i < xs.length := by omega
    refine hv.idx encW_len (List.getElem?_eq_getElem hlt) (fun l o ha => ?_)
    simp only [kPtr_p]
    refine ha.ld (i := 0) rfl ?_
    refine hw.idx encW_len (List.getElem?_eq_getElem (hl ▸ hlt)) (fun l o ha => ?_)
    simp only [kPtr_p]
    refine ha.ld (i := 0) rfl ?_
    simp only [kBin_neq, kSplit_b, decide_eq_true_eq, decide_eq_false_iff_not, kBin_add]
    refine ⟨fun h => aRet_of (Sub.refl _) ?_, fun h => ?_⟩
    · have : xs ≠ ys := fun e => h (by subst e; rfl)
      simpa [this] using hK n1
    · rw [wrapNat (by omega)]
      refine hI (xs.length - (i + 1)) _ _ _ (by omega) ⟨rfl, i + 1, rfl, by omega, h0, h1, rfl, ?_⟩
      rw [List.take_add_one, List.take_add_one, List.getElem?_eq_getElem hlt, List.getElem?_eq_getElem (hl ▸ hlt), hp]
      have : xs[i] = ys[i] := Classical.byContradiction h
      simp [this]
  · have : i = xs.length := by omega
    subst this
    rw [List.take_length, hl, List.take_length] at hp
    exact aRet_of (Sub.refl _) (by simpa [hp] using hK n1)

theorem Equal_spec {v w : Value} {xs ys : List Ev} (hv : Sl encE 5 g v xs) (hw : Sl encE 5 g w ys) (hlen : xs.length < 1000000) {K : Cont}
    (hK : ∀ n', K (.bool (decide (xs = ys))) g n') : AC slices_Equal_api_Event_api_Event_id [v, w] g n K := by
  refine ACalls.fold X0_mono ?_
  rw [← slices_Equal_api_Event_api_Event_eq]
  simp only [slices_Equal_api_Event_api_Event]
  refine hv.len (hw.len ?_)
  simp only [kBin_neq, kSplit_b, decide_eq_true_eq, decide_eq_false_iff_not]
  refine ⟨fun h => aRet_of (Sub.refl _) ?_, fun h => hv.len ?_⟩
  · have : xs ≠ ys := fun e => h (by rw [e])
    simpa [this] using hK n
  have hl : xs.length = ys.length := by omega
  refine lfp_ind (fun m t g' n' => g' = g ∧ ∃ i : Nat, m = xs.length - i ∧ i ≤ xs.length ∧ t 0 = v ∧ t 1 = w ∧ t 12 = .int .i64 xs.length ∧ t 13 = .int .i64 i ∧ xs.take i = ys.take i) ?_
    (m := xs.length) ⟨rfl, 0, by simp, by simp, rfl, rfl, rfl, rfl, rfl⟩
  rintro I m t g1 n1 hI ⟨rfl, i, hm, hi, h0, h1, h12, h13, hp⟩
  simp only [slices_Equal_api_Event_api_Event_l1, h0, h1, h12, h13]
  simp only [kBin_lss, kSplit_b, decide_eq_true_eq, decide_eq_false_iff_not]
  refine ⟨fun hlt => ?_, fun hge => ?_⟩
  · have hlt : i < xs.length := by omega
    refine hv.idx encE_len (List.getElem?_eq_getElem hlt) (fun l o ha => ?_)
    simp only [kPtr_p]
    refine ha.ldN rfl ?_
    refine hw.idx encE_len (List.getElem?_eq_getElem (hl ▸ hlt)) (fun l o ha => ?_)
    simp only [kPtr_p]
    refine ha.ldN rfl ?_
    have hne : ∀ (a b : Ev) (K : Value → Prop), K (.bool (decide (a ≠ b))) → kBin (.agg [.i, .i, .i, .i, .i]) .neq (.agg (encE a).toArray) (.agg (encE b).toArray) K := by
      intro a b K h
      have e : (!(a.kind == b.kind && (a.core == b.core && (a.line == b.line && (a.word == b.word && (a.val == b.val && true)))))) = decide (a ≠ b) := by
        rw [Bool.eq_iff_iff]; cases a; cases b; simp [Ev.mk.injEq]
      show K (.bool _)
      rw [← e] at h
      exact h
    refine hne _ _ _ ?_
    simp only [kBin_neq, kSplit_b, decide_eq_true_eq, decide_eq_false_iff_not, kBin_add]
    refine ⟨fun h => aRet_of (Sub.refl _) ?_, fun h => ?_⟩
    · have : xs ≠ ys := fun e => h (by subst e; rfl)
      simpa [this] using hK n1
    · rw [wrapNat (by omega)]
      refine hI (xs.length - (i + 1)) _ _ _ (by omega) ⟨rfl, i + 1, rfl, by omega, h0, h1, h12, rfl, ?_⟩
      rw [List.take_add_one, List.take_add_one, List.getElem?_eq_getElem hlt, List.getElem?_eq_getElem (hl ▸ hlt), hp]
      have : xs[i] = ys[i] := Classical.byContradiction h
      simp [this]
  · have : i = xs.length := by omega
    subst this
    rw [List.take_length, hl, List.take_length] at hp
    exact aRet_of (Sub.refl _) (by simpa [hp] using hK n1)

theorem Same_spec {v w : Value} {xs ys : List Ev} (hv : Sl encE 5 g v xs) (hw : Sl encE 5 g w ys) (hlen : xs.length < 1000000) {K : Cont}
    (hK : ∀ n', K (.bool (decide (xs = ys))) g n') : AC trace_Same_id [v, w] g n K := by
  refine ACalls.fold X0_mono ?_
  rw [← trace_Same_eq]
  simp only [trace_Same]
  exact Equal_spec hv hw hlen fun n' => aRet_of (Sub.refl _) (hK _)
end Go.Proofs.Ytncodeibkmekmaa.Gen

namespace Go.Proofs.Ytncodeibkmekmaa.Gen
open Go Go.Proofs.Ytncodeibkmekmaa.Abs Go.RowKit
variable {g : G} {n : Nat}

theorem Sub_of_live {g' g : G} (h : ∀ l b, g' l = some b → g l = some b) : Sub g' g := fun l => by
  cases e : g' l with
  | none => exact .inl rfl
  | some b => exact .inr (h l b e).symm
theorem kIndexAddr_s {l o m c z : Nat} {k : IntKind} {j : Int} {K : Value → Prop} (h0 : 0 ≤ j) (h1 : j < m) (kk : K (ptr l (o + j.toNat * z))) : kIndexAddr (.slice (some ⟨l, o, none⟩) m c) (.int k j) z K := ⟨h0, h1, kk⟩

def cutStep (s : List (List Ev) × List Ev) (e : Ev) : List (List Ev) × List Ev := if e.kind = 11 then (s.1 ++ [s.2], []) else (s.1, s.2 ++ [e])
def cutP (l : List Ev) : List (List Ev) × List Ev := l.foldl cutStep ([], [])
def cutF (l : List Ev) : List (List Ev) := (cutP l).1 ++ [(cutP l).2]

/-- a slice of slices of events -/
def Parts (g : G) (v : Value) (ps : List (List Ev)) : Prop := ∃ cs, Rd g v 1 ps.length cs ∧ ∀ (j : Nat) (p : List Ev), ps[j]? = some p → ∃ c, cs[j]? = some c ∧ Sl encE 5 g c p
theorem Parts.mono {g g' : G} {v : Value} {ps : List (List Ev)} (h : Parts g v ps) (hs : Sub g g') : Parts g' v ps := by
  obtain ⟨cs, h1, h2⟩ := h
  exact ⟨cs, h1.mono hs, fun j p hp => by obtain ⟨c, hc, hl⟩ := h2 j p hp; exact ⟨c, hc, hl.mono hs⟩⟩

theorem own_cell {α : Type} {enc : α → List Value} {z : Nat} {g0 : G} {v : Value} {xs : List α} (h : OwnS enc z g0 g v xs) : isCell v = true := by
  rcases h with ⟨_, _, a, rfl, _⟩ | ⟨l, c, bk, rfl, _⟩ <;> rfl

theorem Cut_spec {v : Value} {xs : List Ev} (hv : Sl encE 5 g v xs) (hlen : xs.length < 1000000) {K : Cont}
    (hK : ∀ v' g' n', Sub g g' → Parts g' v' (cutF xs) → K v' g' n') : AC trace_Cut_id [v] g n K := by
  refine ACalls.fold X0_mono ?_
  rw [← trace_Cut_eq]
  simp only [trace_Cut]
  refine ⟨rfl, by decide, ?_⟩
  intro hn
  refine hv.len ?_
  have hs0 : Sub g (upd g n (some (.cells [.slice none 0 0] .exact))) := (Sub.refl g).new hn _
  refine lfp_ind (fun m t g1 n1 => ∃ (i : Nat) (qs : List (List Ev)) (q : List Ev) (gb : G) (ds : List Value) (d : Value), m = xs.length - i ∧ i ≤ xs.length ∧ t 8 = v ∧ t 9 = .int .i64 xs.length ∧ t 10 = .int .i64 i ∧
      cutP (xs.take i) = (qs, q) ∧ Sub g gb ∧ Sub gb g1 ∧ Own gb g1 (t 3) 1 (qs.length + 1) (ds ++ [d]) ∧ ds.length = qs.length ∧ (∀ (j : Nat) (p : List Ev), qs[j]? = some p → ∃ c, ds[j]? = some c ∧ Sl encE 5 gb c p) ∧
      OwnS encE 5 gb g1 d q ∧ (∀ l, blkOf d = some l → blkOf (t 3) ≠ some l) ∧ qs.length ≤ i ∧ q.length ≤ i) ?_
    (m := xs.length) ⟨0, [], [], g, [], .slice none 0 0, by simp, by simp, rfl, rfl, rfl, rfl, Sub.refl g, hs0, Own.lit (upd_same _ _ _) hn rfl (by decide), rfl, by simp, OwnS.nil, by simp [blkOf], by simp, by simp⟩
  rintro I m t g1 n1 hI ⟨i, qs, q, gb, ds, d, hm, hi, h8, h9, h10, hc, hs1, hs2, hown, hdl, hds, hod, hbd, hq1, hq2⟩
  simp only [trace_Cut_l1, h8, h9, h10, kBin_lss, kSplit_b, decide_eq_true_eq, decide_eq_false_iff_not]
  refine ⟨fun hlt => ?_, fun hge => ?_⟩
  · have hlt : i < xs.length := by omega
    have he : xs[i]? = some xs[i] := List.getElem?_eq_getElem hlt
    generalize xs[i] = e at he
    have htk : xs.take (i + 1) = xs.take i ++ [e] := by rw [List.take_add_one, he]; rfl
    have hc' : cutP (xs.take (i + 1)) = cutStep (qs, q) e := by rw [htk]; unfold cutP at hc ⊢; rw [List.foldl_append, hc]; rfl
    have hw : IntKind.i64.wrap ((i : Int) + 1) = ((i + 1 : Nat) : Int) := wrapNat (by omega)
    refine (hv.mono (hs1.trans hs2)).idx encE_len he (fun l o ha => ?_)
    simp only [kPtr_p]
    refine ha.ldN rfl ?_
    intro hn1
    simp only [kAgg_a]
    refine ⟨rfl, kStN_of (upd_same _ _ _) rfl (by simp [encE]) (encE_cell e) ?_⟩
    have hs3 : Sub g1 _ := (((Sub.refl g1).new hn1 (some (.cells [(.int .i64 0), (.int .i64 0), (.int .i64 0), (.int .i64 0), (.int .u64 0)] .exact))).upd_fresh (some (.cells (encE e) .exact)) hn1)
    have hl3 : (upd (upd g1 n1 (some (.cells [(.int .i64 0), (.int .i64 0), (.int .i64 0), (.int .i64 0), (.int .u64 0)] .exact))) n1 (some (.cells (encE e) .exact))) n1 = some (.cells (encE e) .exact) := upd_same _ _ _
    refine kLd_of (upd_same _ _ _) rfl ?_
    simp only [kBin_eql, kSplit_b, decide_eq_true_eq, decide_eq_false_iff_not]
    rcases hown with ⟨h, _⟩ | ⟨lo, c, bk, h3, hg, h0, hl, hck⟩
    · exact absurd h (by omega)
    have hrw : bk.rw = true := by rcases hck with ⟨_, rfl, _⟩ | ⟨_, rfl⟩ <;> rfl
    have hown : Own gb g1 (.slice (some ⟨lo, 0, none⟩) (qs.length + 1) c) 1 (qs.length + 1) (ds ++ [d]) := .inr ⟨lo, c, bk, rfl, hg, h0, hl, hck⟩
    refine ⟨fun hk => ?_, fun hk => ?_⟩
    · -- a failure: a new part
      refine ⟨rfl, by decide, ?_⟩
      intro hn5
      have hs5 := hs3.new hn5 (some (.cells [.slice none 0 0] .exact))
      rw [h3]
      refine append_own (hs2.trans hs5) (hown.mono hs5) (Rd.lit (m := 1) (upd_same _ _ _) rfl) (show ∀ v ∈ [Value.slice none 0 0], isCell v = true from by simp [isCell]) (by decide) (by omega) (by omega) (fun v' g' n' hs' ho' hkeep hfr => ?_)
      simp only [kBin_add, hw]
      have hlo5 := hs5.live hg
      refine hI (xs.length - (i + 1)) _ _ _ (by omega) ⟨i + 1, qs ++ [q], [], upd (upd (upd (upd g1 n1 (some (.cells [(.int .i64 0), (.int .i64 0), (.int .i64 0), (.int .i64 0), (.int .u64 0)] .exact))) n1 (some (.cells (encE e) .exact))) (n1 + 1) (some (.cells [.slice none 0 0] .exact))) lo none, ds ++ [d], .slice none 0 0, rfl, by omega, h8, h9, rfl, by rw [hc']; simp [cutStep, hk], ?_, ?_, ?_, by simp [hdl], ?_, OwnS.nil, by simp [blkOf], by simp; omega, by simp⟩
      · exact hs1.trans ((hs2.trans hs5).upd_fresh _ h0)
      · refine Sub_of_live fun l b hb => ?_
        have hne : l ≠ lo := by intro e; subst e; rw [upd_same] at hb; cases hb
        rw [upd_ne _ _ hne] at hb
        exact hkeep l b hb (fun e => hne (Option.some.inj e).symm)
      · show Own _ g' v' 1 _ _
        rw [List.length_append, List.length_singleton]
        rcases ho' with ⟨h, _⟩ | ⟨lo', c', bk', rfl, hg', h0', hl', hck'⟩
        · exact absurd h (by omega)
        · refine .inr ⟨lo', c', bk', rfl, hg', ?_, by simp [hdl], hck'⟩
          have := hfr (by omega) lo' rfl
          by_cases e : lo' = lo
          · subst e; rw [upd_same]
          · rw [upd_ne _ _ e]; exact this
      · intro j p hp
        rw [List.getElem?_append] at hp
        split at hp
        · rename_i hj
          obtain ⟨c1, h1, h2⟩ := hds j p hp
          exact ⟨c1, by rw [List.getElem?_append_left (by omega)]; exact h1, h2.mono ((hs2.trans hs5).upd_fresh _ h0)⟩
        · rename_i hj
          have hj0 : j - qs.length = 0 := by
            rcases Nat.eq_zero_or_pos (j - qs.length) with h | h
            · exact h
            · rw [List.getElem?_eq_none (by simp; omega)] at hp; cases hp
          rw [hj0] at hp
          simp at hp
          subst hp
          refine ⟨d, by rw [List.getElem?_append_right (by omega), show j - ds.length = 0 by omega]; rfl, ?_⟩
          refine OwnS.sl (g0 := gb) (hod.keep fun l b hb hbl => ?_)
          have hne : l ≠ lo := by intro e; subst e; exact hbd l hbl (by rw [h3]; rfl)
          rw [upd_ne _ _ hne]
          exact hs5.live hb
    · -- an event of the last part
      rw [h3]
      simp only [kLen_s, kBin_sub]
      have hw2 : IntKind.i64.wrap (((qs.length + 1 : Nat) : Int) - 1) = (qs.length : Int) := by rw [wrap64_of (by omega) (by omega)]; omega
      rw [hw2]
      refine kIndexAddr_s (by omega) (by omega) ?_
      simp only [kPtr_p, Int.toNat_natCast, Nat.zero_add, Nat.mul_one]
      have hdd : (ds ++ [d])[qs.length]? = some d := by rw [List.getElem?_append_right (by omega), show qs.length - ds.length = 0 by omega]; rfl
      refine kLd_of (hs3.live hg) hdd ?_
      refine kLdN_of hl3 (by simp [encE]) ?_
      refine ⟨rfl, by decide, ?_⟩
      intro hn5
      have hs5 := hs3.new hn5 (some (.cells (encE e) .exact))
      refine ⟨?_, ?_⟩
      · show upd _ _ _ lo = _
        rw [upd_ne]
        intro e; subst e; exact absurd ((hs3.live hg).symm.trans hn5) (by simp)
      refine OwnS.append (hod.mono hs5) (hs2.trans hs5) (Sl.one (x := e) (encE_len _) (upd_same _ _ _)) encE_cell (by decide) (by simp; omega) (by simp; omega) (fun v' g' n' hs' ho' hkeep hfr => ?_)
      refine kIndexAddr_s (by omega) (by omega) ?_
      simp only [kPtr_p, Int.toNat_natCast, Nat.zero_add, Nat.mul_one]
      have hlo5 := hs5.live hg
      have hne : blkOf d ≠ some lo := fun e => hbd lo e (by rw [h3]; rfl)
      have hg7 := hkeep lo _ hlo5 hne
      have hlv : ∀ l, blkOf v' = some l → l ≠ lo := fun l hl e => by
        subst e; exact absurd (hlo5.symm.trans (hfr (by simp) l hl)) (by simp)
      refine kSt_of hg7 hrw (by simp; omega) (own_cell ho') ?_
      simp only [kBin_add, hw]
      have hset : (ds ++ [d]).set qs.length v' = ds ++ [v'] := by rw [← hdl, List.set_append_right _ _ (by omega)]; simp
      rw [hset]
      refine hI (xs.length - (i + 1)) _ _ _ (by omega) ⟨i + 1, qs, q ++ [e], gb, ds, v', rfl, by omega, h8, h9, rfl, by rw [hc']; simp [cutStep, hk], hs1, hs'.upd_fresh _ h0, ?_, hdl, hds, ?_, ?_, by omega, by simp; omega⟩
      · show Own gb _ (t 3) 1 _ _
        rw [h3]
        exact .inr ⟨lo, c, bk, rfl, upd_same _ _ _, h0, by simpa using hl, hck⟩
      · exact ho'.keep fun l b hb hbl => by rw [upd_ne _ _ (hlv l hbl)]; exact hb
      · intro l hl
        show blkOf (t 3) ≠ some l
        rw [h3]
        simp only [blkOf, ne_eq, Option.some.injEq]
        exact fun e => hlv l hl e.symm
  · have hge : i = xs.length := by omega
    subst hge
    rw [List.take_length] at hc
    refine aRet_of (Sub.refl _) (hK _ _ _ (hs1.trans hs2) ⟨ds ++ [d], ?_, ?_⟩)
    · have : (cutF xs).length = qs.length + 1 := by simp [cutF, hc]
      rw [this]; exact hown.rd
    · intro j p hp
      simp only [cutF, hc] at hp
      rw [List.getElem?_append] at hp
      split at hp
      · rename_i hj
        obtain ⟨c1, h1, h2⟩ := hds j p hp
        exact ⟨c1, by rw [List.getElem?_append_left (by omega)]; exact h1, h2.mono hs2⟩
      · rename_i hj
        have hj0 : j - qs.length = 0 := by
          rcases Nat.eq_zero_or_pos (j - qs.length) with h | h
          · exact h
          · rw [List.getElem?_eq_none (by simp; omega)] at hp; cases hp
        rw [hj0] at hp
        simp at hp
        subst hp
        exact ⟨d, by rw [List.getElem?_append_right (by omega), show j - ds.length = 0 by omega]; rfl, hod.sl⟩
end Go.Proofs.Ytncodeibkmekmaa.Gen

namespace Go.Proofs.Ytncodeibkmekmaa.Gen
open Go Go.Proofs.Ytncodeibkmekmaa.Abs Go.RowKit
variable {g : G} {n : Nat}

theorem kSplit_t {b : Bool} {A B : Prop} (h : b = true) (k : A) : kSplit (.bool b) A B := by subst h; exact k
theorem kSplit_f {b : Bool} {A B : Prop} (h : b = false) (k : B) : kSplit (.bool b) A B := by subst h; exact k
theorem neE (a b : Ev) (K : Value → Prop) (h : K (.bool (decide (a ≠ b)))) : kBin (.agg [.i, .i, .i, .i, .i]) .neq (.agg (encE a).toArray) (.agg (encE b).toArray) K := by
  have e : (!(a.kind == b.kind && (a.core == b.core && (a.line == b.line && (a.word == b.word && (a.val == b.val && true)))))) = decide (a ≠ b) := by
    rw [Bool.eq_iff_iff]; cases a; cases b; simp [Ev.mk.injEq]
  show K (.bool _)
  rw [← e] at h
  exact h

theorem Parts.get {v : Value} {ps : List (List Ev)} {j : Nat} {i : Int} {p : List Ev} {K : Value → Prop} (h : Parts g v ps) (hi : i = (j : Int)) (hj : ps[j]? = some p)
    (kk : ∀ l o c, Sl encE 5 g c p → (∀ K' : Value → Prop, K' c → kLd g l o K') → K (ptr l o)) : kIndexAddr v (.int .i64 i) 1 K := by
  obtain ⟨cs, hr, hc⟩ := h
  obtain ⟨c, h1, h2⟩ := hc j p hj
  have hlt : j < ps.length := by rcases Nat.lt_or_ge j ps.length with h | h; exact h; rw [List.getElem?_eq_none h] at hj; cases hj
  subst hi
  refine hr.idx (by omega) (by omega) (fun l o ha => ?_)
  have e : (cs.drop ((j : Int).toNat * 1)).take 1 = [c] := by
    rw [Int.toNat_natCast, Nat.mul_one]
    have := List.drop_eq_getElem?_toList_append (l := cs) (i := j)
    rw [this, h1]; rfl
  rw [e] at ha
  exact kk l o c h2 fun K' hk => ha.ld (i := 0) rfl hk
theorem Parts.len {v : Value} {ps : List (List Ev)} {K : Value → Prop} (h : Parts g v ps) (k : K (.int .i64 ps.length)) : kLen v K := by obtain ⟨cs, hr, _⟩ := h; exact hr.len k

theorem wakes_spec {K : Cont} (hK : ∀ n', K (.bool true) g n') : AC bellowslaw17_wakes_id [] g n K := by
  refine ACalls.fold X0_mono ?_
  rw [← bellowslaw17_wakes_eq]
  simp only [bellowslaw17_wakes]
  refine ⟨rfl, by decide, rfl, by decide, rfl, by decide, rfl, by decide, rfl, by decide, rfl, by decide, rfl, by decide, rfl, by decide, rfl, by decide, rfl, by decide, rfl, by decide, ?_⟩
  intro hn
  have hs1 : Sub g _ := (Sub.refl g).new hn (some (.cells (([⟨8, 1, 0, 0, 5⟩, ⟨11, 0, 0, 0, 0⟩, ⟨3, 0, 2, 3, 7⟩] : List Ev).map encE).flatten .exact))
  have hl := upd_same g n (some (.cells (([⟨8, 1, 0, 0, 5⟩, ⟨11, 0, 0, 0, 0⟩, ⟨3, 0, 2, 3, 7⟩] : List Ev).map encE).flatten .exact))
  have hsl : Sl encE 5 _ (.slice (some ⟨n, 0, none⟩) 3 3) [⟨8, 1, 0, 0, 5⟩, ⟨11, 0, 0, 0, 0⟩, ⟨3, 0, 2, 3, 7⟩] := Rd.lit hl rfl
  refine Cut_spec hsl (by decide) (fun v8 g2 n8 hs2 hp => ?_)
  rw [show cutF [⟨8, 1, 0, 0, 5⟩, ⟨11, 0, 0, 0, 0⟩, ⟨3, 0, 2, 3, 7⟩] = [[⟨8, 1, 0, 0, 5⟩], [⟨3, 0, 2, 3, 7⟩]] from by decide] at hp
  refine hp.len ?_
  simp only [kBin_eql]
  refine kSplit_t rfl ?_
  refine hp.get (j := 0) rfl rfl (fun l o c hc hld => hld _ (hc.len ?_))
  simp only [kBin_eql]
  refine kSplit_t rfl ?_
  refine hp.get (j := 1) rfl rfl (fun l o c hc hld => hld _ (hc.len ?_))
  simp only [kBin_eql]
  refine kSplit_t rfl ?_
  refine Tells_spec (hsl.mono hs2) (by decide) (fun v28 g3 n28 hs3 ho3 => ?_)
  refine ⟨rfl, by decide, ?_⟩
  intro hn4
  have hs4 := (Sub.refl g3).new hn4 (some (.cells (encW 5) .exact))
  have hl4 := upd_same g3 n28 (some (.cells (encW 5) .exact))
  rw [show (List.filter (tellP 1) ([⟨8, 1, 0, 0, 5⟩, ⟨11, 0, 0, 0, 0⟩, ⟨3, 0, 2, 3, 7⟩] : List Ev)).map Ev.val = [5] from by decide] at ho3
  refine Words_spec (xs := [5]) (ys := [5]) (ho3.sl.mono hs4) (Sl.one (encW_len _) hl4) (by decide) (fun n5 => ?_)
  refine kSplit_t rfl ?_
  refine Stores_spec (hsl.mono (hs2.trans (hs3.trans hs4))) (by decide) (fun v34 g6 n34 hs6 ho6 => ?_)
  refine ⟨rfl, by decide, ?_⟩
  intro hn7
  have hs7 := (Sub.refl g6).new hn7 (some (.cells (encW 7) .exact))
  have hl7 := upd_same g6 n34 (some (.cells (encW 7) .exact))
  rw [show (List.filter (storeP 2 3) ([⟨8, 1, 0, 0, 5⟩, ⟨11, 0, 0, 0, 0⟩, ⟨3, 0, 2, 3, 7⟩] : List Ev)).map Ev.val = [7] from by decide] at ho6
  refine Words_spec (xs := [7]) (ys := [7]) (ho6.sl.mono hs7) (Sl.one (encW_len _) hl7) (by decide) (fun n8 => ?_)
  refine kSplit_t rfl ?_
  have hall := hs2.trans (hs3.trans (hs4.trans (hs6.trans hs7)))
  refine Of_spec (hsl.mono hall) (by decide) (fun v40 g9 n40 hs9 ho9 => ?_)
  refine ho9.sl.len ?_
  simp only [kBin_eql]
  refine kSplit_t (by decide) ?_
  refine Same_spec (hsl.mono (hall.trans hs9)) (hsl.mono (hall.trans hs9)) (by decide) (fun n10 => ?_)
  exact aRet_of (hs1.trans (hall.trans hs9)) (by simpa using hK n10)

/-! the parts -/
structure CutInv (pre : List Ev) (s : List (List Ev) × List Ev) : Prop where
  cs : ∃ cs : List (List Ev), cs.length = s.1.length ∧ (∀ (i : Nat) (p : List Ev), s.1[i]? = some p → ∃ f : Ev, f.kind = 11 ∧ cs[i]? = some (p ++ [f])) ∧ pre = cs.flatten ++ s.2
  ok : ∀ p ∈ s.1 ++ [s.2], ∀ e ∈ p, e.kind ≠ 11
  count : (pre.filter (ofP 11 (-1))).length = s.1.length

theorem cutInv_step {pre : List Ev} {s : List (List Ev) × List Ev} (h : CutInv pre s) (e : Ev) : CutInv (pre ++ [e]) (cutStep s e) := by
  obtain ⟨⟨cs, h1, h2, h3⟩, hok, hcount⟩ := h
  obtain ⟨qs, q⟩ := s
  simp only at h1 h2 h3 hok hcount
  by_cases hk : e.kind = 11
  · refine ⟨⟨cs ++ [q ++ [e]], by simp [cutStep, hk, h1], ?_, by simp [cutStep, hk, h3]⟩, ?_, by simp [cutStep, hk, hcount, ofP]⟩
    · intro i p hp
      simp only [cutStep, hk, if_true] at hp
      rw [List.getElem?_append] at hp
      split at hp
      · rename_i hi
        obtain ⟨f, hf, hc⟩ := h2 i p hp
        exact ⟨f, hf, by rw [List.getElem?_append_left (by omega)]; exact hc⟩
      · rename_i hi
        have hi0 : i - qs.length = 0 := by
          rcases Nat.eq_zero_or_pos (i - qs.length) with h | h
          · exact h
          · rw [List.getElem?_eq_none (by simp; omega)] at hp; cases hp
        rw [hi0] at hp
        simp at hp
        subst hp
        exact ⟨e, hk, by rw [List.getElem?_append_right (by omega), show i - cs.length = 0 by omega]; rfl⟩
    · intro p hp
      simp only [cutStep, hk, if_true] at hp
      rcases List.mem_append.1 hp with h | h
      · exact hok p h
      · simp at h; subst h; simp
  · refine ⟨⟨cs, by simp [cutStep, hk, h1], ?_, by simp [cutStep, hk, h3]⟩, ?_, by simp [cutStep, hk, hcount, ofP]⟩
    · intro i p hp
      simp only [cutStep, hk, if_false] at hp
      exact h2 i p hp
    · intro p hp x hx
      simp only [cutStep, hk, if_false] at hp
      rcases List.mem_append.1 hp with h | h
      · exact hok p (List.mem_append_left _ h) x hx
      · simp at h
        subst h
        rcases List.mem_append.1 hx with h | h
        · exact hok q (by simp) x h
        · simp at h; subst h; exact hk
theorem cutInv_fold : ∀ (l pre : List Ev) (s : List (List Ev) × List Ev), CutInv pre s → CutInv (pre ++ l) (l.foldl cutStep s)
  | [], pre, s, h => by simpa using h
  | e :: l, pre, s, h => by
    have := cutInv_fold l (pre ++ [e]) (cutStep s e) (cutInv_step h e)
    simpa using this
theorem cutInv (l : List Ev) : CutInv l (cutP l) := by
  have := cutInv_fold l [] ([], []) ⟨⟨[], by simp⟩, by simp, by simp⟩
  simpa [cutP] using this
theorem cut_count (l : List Ev) : (cutF l).length = (l.filter (ofP 11 (-1))).length + 1 := by simp [cutF, (cutInv l).count]

theorem flatten_at {α : Type} : ∀ (bs : List (List α)) (i : Nat) (b : List α) (k : Nat), bs[i]? = some b → k < b.length → bs.flatten[(bs.take i).flatten.length + k]? = b[k]?
  | [], i, b, k, h, _ => by simp at h
  | c :: bs, 0, b, k, h, hk => by
    simp at h; subst h
    simp [List.getElem?_append_left hk]
  | c :: bs, i + 1, b, k, h, hk => by
    have ih := flatten_at bs i b k (by simpa using h) hk
    rw [← ih]
    simp only [List.take_succ_cons, List.flatten_cons, List.length_append]
    rw [List.getElem?_append_right (by omega)]
    congr 1; omega

/-- where the parts stand in the whole: 'off i' is where part i begins -/
theorem cut_offs (l : List Ev) : ∃ off : Nat → Nat, off 0 = 0 ∧ (∀ (i : Nat) (p : List Ev), (cutF l)[i]? = some p → off (i + 1) = off i + p.length + 1 ∧ (∀ (k : Nat) (e : Ev), p[k]? = some e → l[off i + k]? = some e ∧ e.kind ≠ 11)) ∧
    (∀ i, 0 < i → i < (cutF l).length → ∃ e : Ev, 0 < off i ∧ l[off i - 1]? = some e ∧ e.kind = 11) ∧ off (cutF l).length = l.length + 1 := by
  obtain ⟨⟨cs, h1, h2, h3⟩, hok, _⟩ := cutInv l
  obtain ⟨fake, hfake⟩ : ∃ e : Ev, e.kind = 11 := ⟨⟨11, 0, 0, 0, 0⟩, rfl⟩
  have hbs : ∀ (i : Nat) (p : List Ev), (cutF l)[i]? = some p → ∃ f : Ev, f.kind = 11 ∧ (cs ++ [(cutP l).2 ++ [fake]])[i]? = some (p ++ [f]) := by
    intro i p hp
    unfold cutF at hp
    rw [List.getElem?_append] at hp
    split at hp
    · obtain ⟨f, hf, hc⟩ := h2 i p hp
      exact ⟨f, hf, by rw [List.getElem?_append_left (by omega)]; exact hc⟩
    · have hi0 : i - (cutP l).1.length = 0 := by
        rcases Nat.eq_zero_or_pos (i - (cutP l).1.length) with h | h
        · exact h
        · rw [List.getElem?_eq_none (by simp; omega)] at hp; cases hp
      rw [hi0] at hp
      simp at hp
      subst hp
      exact ⟨fake, hfake, by rw [List.getElem?_append_right (by omega), show i - cs.length = 0 by omega]; rfl⟩
  have hfl : (cs ++ [(cutP l).2 ++ [fake]]).flatten = l ++ [fake] := by
    have : l ++ [fake] = cs.flatten ++ (cutP l).2 ++ [fake] := by rw [← h3]
    rw [this]; simp
  have hlen : (cs ++ [(cutP l).2 ++ [fake]]).length = (cutF l).length := by simp [cutF, h1]
  generalize cs ++ [(cutP l).2 ++ [fake]] = bs at hbs hfl hlen
  have hoff : ∀ (i : Nat) (b : List Ev), bs[i]? = some b → (bs.take (i + 1)).flatten.length = (bs.take i).flatten.length + b.length := by
    intro i b hb
    rw [List.take_add_one, hb]; simp
  have htot : (bs.take (cutF l).length).flatten.length = l.length + 1 := by rw [← hlen, List.take_length, hfl]; simp
  have hle : ∀ i, (bs.take i).flatten.length ≤ l.length + 1 := by
    intro i
    have : (bs.take i).flatten.length + (bs.drop i).flatten.length = l.length + 1 := by
      rw [← List.length_append, ← List.flatten_append, List.take_append_drop, hfl]; simp
    omega
  refine ⟨fun i => (bs.take i).flatten.length, by simp, ?_, ?_, htot⟩
  · intro i p hp
    obtain ⟨f, hf, hb⟩ := hbs i p hp
    refine ⟨show (bs.take (i + 1)).flatten.length = (bs.take i).flatten.length + p.length + 1 by rw [hoff i _ hb]; simp; omega, ?_⟩
    intro k e he
    have hk : k < p.length := by rcases Nat.lt_or_ge k p.length with h | h; exact h; rw [List.getElem?_eq_none h] at he; cases he
    have h := flatten_at bs i (p ++ [f]) k hb (by simp; omega)
    rw [hfl, List.getElem?_append_left hk, he] at h
    have hle' := hle (i + 1)
    rw [hoff i _ hb] at hle'
    simp only [List.length_append, List.length_singleton] at hle'
    rw [List.getElem?_append_left (by omega)] at h
    exact ⟨h, hok p (List.mem_of_getElem? hp) e (List.mem_of_getElem? he)⟩
  · intro i h0 hi
    obtain ⟨j, rfl⟩ : ∃ j, i = j + 1 := ⟨i - 1, by omega⟩
    have hp : (cutF l)[j]? = some (cutF l)[j] := List.getElem?_eq_getElem (by omega)
    obtain ⟨f, hf, hb⟩ := hbs j _ hp
    have hp2 : (cutF l)[j + 1]? = some (cutF l)[j + 1] := List.getElem?_eq_getElem hi
    obtain ⟨f2, hf2, hb2⟩ := hbs (j + 1) _ hp2
    have ho := hoff j _ hb
    have ho2 := hoff (j + 1) _ hb2
    have hle2 := hle (j + 1 + 1)
    simp only [List.length_append, List.length_singleton] at ho ho2
    refine ⟨f, show 0 < (bs.take (j + 1)).flatten.length by omega, ?_, hf⟩
    show l[(bs.take (j + 1)).flatten.length - 1]? = some f
    have h := flatten_at bs j _ (cutF l)[j].length hb (by simp)
    rw [hfl] at h
    rw [List.getElem?_append_left (by omega)] at h
    rw [show (bs.take (j + 1)).flatten.length - 1 = (bs.take j).flatten.length + (cutF l)[j].length by omega, h]
    simp
end Go.Proofs.Ytncodeibkmekmaa.Gen

namespace Go.Proofs.Ytncodeibkmekmaa.Gen
open Go Go.Proofs.Ytncodeibkmekmaa.Abs Go.RowKit
variable {g : G} {n : Nat}

theorem lt_of_get {α : Type} {xs : List α} {i : Nat} {x : α} (h : xs[i]? = some x) : i < xs.length := by
  rcases Nat.lt_or_ge i xs.length with h' | h'
  · exact h'
  · rw [List.getElem?_eq_none h'] at h; cases h
theorem take_add {α : Type} {xs : List α} {i : Nat} {x : α} (h : xs[i]? = some x) : xs.take (i + 1) = xs.take i ++ [x] := by rw [List.take_add_one, h]; rfl
theorem drop_get {α : Type} {xs : List α} {i : Nat} {x : α} (h : xs[i]? = some x) : xs.drop i = x :: xs.drop (i + 1) := by
  rw [List.drop_eq_getElem?_toList_append, h]; rfl

def toldP (core : Int) (e : Ev) : Bool := decide (core = -1) && (decide (e.kind = 8) && decide (e.core ≠ -1))
theorem told_spec {v : Value} {xs : List Ev} {core : Int} (hv : Sl encE 5 g v xs) (hlen : xs.length < 1000000) {K : Cont}
    (hK : ∀ n', K (.int .i64 (xs.filter (toldP core)).length) g n') : AC bellowslaw17_told_id [v, .int .i64 core] g n K := by
  refine ACalls.fold X0_mono ?_
  rw [← bellowslaw17_told_eq]
  simp only [bellowslaw17_told]
  refine lfp_ind (fun m t g' n' => g' = g ∧ ∃ i : Nat, m = xs.length - i ∧ i ≤ xs.length ∧ t 0 = v ∧ t 1 = .int .i64 core ∧ t 5 = .int .i64 (((xs.take i).filter (toldP core)).length : Nat) ∧ t 6 = .int .i64 i) ?_
    (m := xs.length) ⟨rfl, 0, by simp, by simp, rfl, rfl, rfl, rfl⟩
  rintro I m t g1 n1 hI ⟨rfl, i, hm, hi, h0, h1, h5, h6⟩
  simp only [bellowslaw17_told_l1, h0, h1, h5, h6]
  refine hv.len ?_
  simp only [kBin_lss, kSplit_b, decide_eq_true_eq, decide_eq_false_iff_not]
  refine ⟨fun hlt => ?_, fun hge => ?_⟩
  · have hlt : i < xs.length := by omega
    have he : xs[i]? = some xs[i] := List.getElem?_eq_getElem hlt
    generalize xs[i] = e at he
    have hcl := List.length_filter_le (toldP core) (xs.take i)
    rw [List.length_take] at hcl
    have next : ∀ (t : Env) (n1 : Nat), t 0 = v → t 1 = .int .i64 core → t 5 = .int .i64 (((xs.take (i + 1)).filter (toldP core)).length : Nat) → t 6 = .int .i64 i → bellowslaw17_told_j2 AC K I t g1 n1 := by
      intro t n1 h0 h1 h5 h6
      simp only [bellowslaw17_told_j2, h6, kBin_add]
      rw [wrapNat (by omega)]
      exact hI (xs.length - (i + 1)) _ _ _ (by omega) ⟨rfl, i + 1, rfl, by omega, h0, h1, h5, rfl⟩
    have no : toldP core e = false → ((xs.take (i + 1)).filter (toldP core)).length = ((xs.take i).filter (toldP core)).length := by
      intro h; rw [take_add he]; simp [h]
    simp only [kBin_eql, kSplit_b, decide_eq_true_eq, decide_eq_false_iff_not]
    refine ⟨fun hc => ?_, fun hc => next _ _ h0 h1 (by rw [no (by simp [toldP, hc])]; exact h5) h6⟩
    refine hv.idx encE_len he (fun l o ha => ?_)
    simp only [kPtr_p]
    refine ha.ld (i := 0) rfl ?_
    simp only [kBin_eql, kSplit_b, decide_eq_true_eq, decide_eq_false_iff_not]
    refine ⟨fun hk => ?_, fun hk => next _ _ h0 h1 (by rw [no (by simp [toldP, hk])]; exact h5) h6⟩
    refine hv.idx encE_len he (fun l o ha => ?_)
    simp only [kPtr_p]
    refine ha.ld (i := 1) rfl ?_
    simp only [kBin_neq, kBin_add, kSplit_b, decide_eq_true_eq, decide_eq_false_iff_not]
    refine ⟨fun hk2 => ?_, fun hk2 => next _ _ h0 h1 (by rw [no (by simpa [toldP] using fun _ _ => Classical.not_not.1 hk2)]; exact h5) h6⟩
    rw [wrapNat (by omega)]
    refine next _ _ h0 h1 ?_ h6
    show Value.int .i64 _ = _
    rw [take_add he]
    have : toldP core e = true := by simp [toldP, hc, hk, hk2]
    simp [this]
  · have : i = xs.length := by omega
    subst this
    exact aRet_of (Sub.refl _) (by rw [List.take_length]; exact hK _)

/-- counts of events whose kinds are apart add up -/
theorem count_add {α : Type} (p q r : α → Bool) : ∀ (xs : List α), (∀ x ∈ xs, r x = (p x || q x) ∧ ¬ (p x = true ∧ q x = true)) → (xs.filter r).length = (xs.filter p).length + (xs.filter q).length
  | [], _ => rfl
  | x :: xs, h => by
    have ih := count_add p q r xs (fun x hx => h x (by simp [hx]))
    obtain ⟨h1, h2⟩ := h x (by simp)
    cases hp : p x <;> cases hq : q x <;> simp [hp, hq] at h1 h2 <;> simp [hp, hq, h1, ih] <;> omega
def rangeP (k : Int) (e : Ev) : Bool := decide (-1 ≤ e.kind) && decide (e.kind < k) && decide (e.kind ≠ 0)
def otherP (e : Ev) : Bool := decide (e.kind < -1) || decide (e.kind = 0) || decide (20 < e.kind)
theorem range_step (xs : List Ev) (k : Int) (h0 : -1 ≤ k) (hk : k ≠ 0) : (xs.filter (rangeP (k + 1))).length = (xs.filter (rangeP k)).length + (xs.filter (ofP k (-1))).length := by
  refine count_add _ _ _ _ fun e _ => ?_
  constructor
  · rw [Bool.eq_iff_iff]; simp [rangeP, ofP, hk]; omega
  · simp [rangeP, ofP, hk]; omega
theorem range_skip (xs : List Ev) : (xs.filter (rangeP (0 + 1))).length = (xs.filter (rangeP 0)).length := by
  congr 2; funext e; rw [Bool.eq_iff_iff]; simp [rangeP]; omega
theorem range_all (xs : List Ev) : (xs.filter (rangeP 21)).length + (xs.filter otherP).length = xs.length := by
  rw [← count_add (rangeP 21) otherP (fun _ => true) xs fun e _ => ?_]
  · simp
  constructor
  · show true = _
    rw [Bool.eq_iff_iff]; simp [rangeP, otherP]; omega
  · simp [rangeP, otherP]; omega
theorem tell_count (xs : List Ev) (core : Int) : (xs.filter (ofP 8 core)).length = ((xs.filter (tellP core)).map Ev.val).length + (xs.filter (toldP core)).length := by
  rw [List.length_map]
  refine count_add _ _ _ _ fun e _ => ?_
  constructor
  · rw [Bool.eq_iff_iff]; simp [ofP, tellP, toldP]; omega
  · simp [tellP, toldP]; omega
theorem of_all (xs : List Ev) : xs.filter (ofP 0 (-1)) = xs := by
  rw [List.filter_eq_self]; intro e _; simp [ofP]

theorem TraceOf_spec {a0 : Value} {core : Int} {xs : List Ev} (h0 : Sl encE 5 g a0 xs) {K : Cont} (hK : ∀ n', K (.bool true) g n') :
    AC bellowslaw17_TraceOf_id [a0, .int .i64 core] g n K := by
  refine ACalls.fold X0_mono ?_
  rw [← bellowslaw17_TraceOf_eq]
  simp only [bellowslaw17_TraceOf]
  refine h0.len ?_
  simp only [kBin_gtr, kSplit_b, decide_eq_true_eq, decide_eq_false_iff_not]
  refine ⟨fun _ => wakes_spec fun n' => aRet_of (Sub.refl _) (hK _), fun hx => ?_⟩
  have hx : xs.length ≤ 300 := by omega
  refine lfp_ind (fun m t g' n' => Sub g g' ∧ ∃ k : Int, m = (21 - k).toNat ∧ -1 ≤ k ∧ k ≤ 21 ∧ t 0 = a0 ∧ t 1 = .int .i64 core ∧ t 5 = .int .i64 ((xs.filter (rangeP k)).length : Nat) ∧ t 6 = .int .i64 k) ?_
    (m := 22) ⟨Sub.refl g, -1, rfl, by omega, by omega, rfl, rfl, ?_, rfl⟩
  · rintro I m t g1 n1 hI ⟨hs1, k, hm, hk1, hk2, t0, t1, t5, t6⟩
    have hx1 := h0.mono hs1
    have hrl := List.length_filter_le (rangeP k) xs
    have hol := List.length_filter_le (ofP k (-1)) xs
    simp only [bellowslaw17_TraceOf_l1, t0, t5, t6, kBin_leq, kSplit_b, decide_eq_true_eq, decide_eq_false_iff_not]
    refine ⟨fun hle => ?_, fun hgt => ?_⟩
    · have next : ∀ (t : Env) (g2 : G) (n1 : Nat), Sub g g2 → t 0 = a0 → t 1 = .int .i64 core → t 5 = .int .i64 ((xs.filter (rangeP (k + 1))).length : Nat) → t 6 = .int .i64 k → bellowslaw17_TraceOf_j2 AC K I t g2 n1 := by
        intro t g2 n1 hs t0 t1 t5 t6
        simp only [bellowslaw17_TraceOf_j2, t6, kBin_add]
        rw [wrap64_of (by omega) (by omega)]
        exact hI (21 - (k + 1)).toNat _ _ _ (by omega) ⟨hs, k + 1, rfl, by omega, by omega, t0, t1, t5, rfl⟩
      simp only [kBin_eql, kSplit_b, decide_eq_true_eq, decide_eq_false_iff_not]
      refine ⟨fun hk0 => ?_, fun hk0 => ?_⟩
      · subst hk0
        exact next _ _ _ hs1 t0 t1 (by rw [range_skip]; exact t5) t6
      · intro hn2
        have hs2 := (Sub.refl g1).new hn2 (some (.cells [] .exact))
        refine OwnS.append (OwnS.empty (g0 := g1)) hs2 (hx1.mono hs2) encE_cell (by decide) (by simp; omega) (by simp; omega) (fun v24 g3 n3 hs3 ho3 _ _ => ?_)
        refine Of_spec (xs := xs) ho3.sl (by omega) (fun v26 g4 n4 hs4 ho4 => ?_)
        have hs4' := hs3.trans hs4
        have hx4 := hx1.mono hs4'
        have hsl := ho4.sl
        have hpk : ∀ e ∈ xs.filter (ofP k (-1)), e.kind = k ∧ ofP k (-1) e = true := by
          intro e he
          have := (List.mem_filter.1 he).2
          refine ⟨?_, this⟩
          simpa [ofP, hk0] using this
        have hstep := range_step xs k hk1 hk0
        refine hsl.len ?_
        simp only [kBin_add]
        rw [wrap64_of (by omega) (by omega)]
        generalize hy : xs.filter (ofP k (-1)) = ys at *
        have hts : ∀ {tt : Env}, tt 5 = .int .i64 (((xs.filter (rangeP k)).length : Nat) + (ys.length : Nat) : Int) → tt 5 = .int .i64 ((xs.filter (rangeP (k + 1))).length : Nat) := by
          intro tt h; rw [h, hstep]; congr 1
        refine lfp_ind (fun m t g' n' => g' = g4 ∧ ∃ i a : Nat, m = ys.length - i ∧ i ≤ ys.length ∧ a ≤ xs.length ∧ (xs.drop a).filter (ofP k (-1)) = ys.drop i ∧ t 0 = a0 ∧ t 1 = .int .i64 core ∧ t 5 = .int .i64 ((xs.filter (rangeP (k + 1))).length : Nat) ∧ t 6 = .int .i64 k ∧ t 7 = v26 ∧ t 8 = .int .i64 a ∧ t 9 = .int .i64 i) ?_
          (m := ys.length) ⟨rfl, 0, 0, by simp, by simp, by simp, by simpa using hy, t0, t1, hts rfl, t6, rfl, rfl, rfl⟩
        rintro J m' t g5 n5 hJ ⟨rfl, i, a, hm', hi, ha, hf, t0, t1, t5, t6, t7, t8, t9⟩
        simp only [bellowslaw17_TraceOf_l3, t7, t9]
        refine hsl.len ?_
        simp only [kBin_lss, kSplit_b, decide_eq_true_eq, decide_eq_false_iff_not]
        refine ⟨fun hlt => ?_, fun hge => next _ _ _ (hs1.trans hs4') t0 t1 t5 t6⟩
        have hlt : i < ys.length := by omega
        have hye : ys[i]? = some ys[i] := List.getElem?_eq_getElem hlt
        generalize ys[i] = y at hye
        obtain ⟨hyk, hyp⟩ := hpk y (List.mem_of_getElem? hye)
        -- the search
        refine lfp_ind (fun m t g' n' => g' = g5 ∧ ∃ a : Nat, m = xs.length - a ∧ a ≤ xs.length ∧ (xs.drop a).filter (ofP k (-1)) = ys.drop i ∧ t 0 = a0 ∧ t 1 = .int .i64 core ∧ t 5 = .int .i64 ((xs.filter (rangeP (k + 1))).length : Nat) ∧ t 6 = .int .i64 k ∧ t 7 = v26 ∧ t 8 = .int .i64 a ∧ t 9 = .int .i64 i) ?_
          (m := xs.length - a) ⟨rfl, a, rfl, ha, hf, t0, t1, t5, t6, t7, t8, t9⟩
        rintro L m2 t g6 n6 hL ⟨rfl, a, hm2, ha, hf, t0, t1, t5, t6, t7, t8, t9⟩
        rw [drop_get hye] at hf
        have hal : a < xs.length := by
          rcases Nat.lt_or_ge a xs.length with h | h
          · exact h
          · rw [List.drop_eq_nil_of_le h] at hf; simp at hf
        have hxe : xs[a]? = some xs[a] := List.getElem?_eq_getElem hal
        generalize xs[a] = x at hxe
        rw [drop_get hxe] at hf
        simp only [bellowslaw17_TraceOf_l4, t0, t7, t8, t9]
        refine hx4.len ?_
        simp only [kBin_lss]
        refine kSplit_t (by simpa using hal) ?_
        refine hx4.idx encE_len hxe (fun l o ha => ?_)
        simp only [kPtr_p]
        refine ha.ldN rfl ?_
        refine hsl.idx encE_len hye (fun l o ha => ?_)
        simp only [kPtr_p]
        refine ha.ldN rfl (neE _ _ _ ?_)
        simp only [kBin_add, kSplit_b, decide_eq_true_eq, decide_eq_false_iff_not]
        refine ⟨fun hne => ?_, fun heq => ?_⟩
        · rw [wrapNat (by omega)]
          refine hL (xs.length - (a + 1)) _ _ _ (by omega) ⟨rfl, a + 1, rfl, by omega, ?_, t0, t1, t5, t6, t7, rfl, t9⟩
          rw [drop_get hye]
          by_cases hp : ofP k (-1) x = true
          · rw [List.filter_cons_of_pos hp] at hf
            exact absurd (List.cons.inj hf).1 hne
          · rw [List.filter_cons_of_neg hp] at hf
            exact hf
        · have heq : x = y := Classical.not_not.1 heq
          subst heq
          rw [List.filter_cons_of_pos hyp] at hf
          have hf' := (List.cons.inj hf).2
          unfold bellowslaw17_TraceOf_j5
          show kLen (t 0) _
          rw [t0]
          refine hx4.len ?_
          show kBin .int .eql (t 8) _ _
          rw [t8]
          simp only [kBin_eql]
          refine kSplit_f (by simp; omega) ?_
          show kIndexAddr (t 7) (t 9) _ _
          rw [t7, t9]
          refine hsl.idx encE_len hye (fun l o ha => ?_)
          simp only [kPtr_p]
          refine ha.ld (i := 0) rfl ?_
          show kBin .int .neq _ (t 6) _
          rw [t6]
          simp only [kBin_neq]
          refine kSplit_f (by simp [hyk]) ?_
          show kBin .int .add (t 8) _ _
          rw [t8]
          simp only [kBin_add]
          unfold bellowslaw17_TraceOf_j6
          show kBin .int .add (t 9) _ _
          rw [t9]
          simp only [kBin_add]
          rw [wrapNat (by omega), wrapNat (by omega)]
          exact hJ (ys.length - (i + 1)) _ _ _ (by omega) ⟨rfl, i + 1, a + 1, rfl, by omega, by omega, hf', t0, t1, t5, t6, t7, rfl, rfl⟩
    · have hk : k = 21 := by omega
      subst hk
      unfold bellowslaw17_TraceOf_j7
      refine lfp_ind (fun m t g' n' => g' = g1 ∧ ∃ i : Nat, m = xs.length - i ∧ i ≤ xs.length ∧ t 0 = a0 ∧ t 1 = .int .i64 core ∧ t 5 = .int .i64 ((xs.filter (rangeP 21)).length : Nat) ∧ t 10 = .int .i64 (((xs.take i).filter otherP).length : Nat) ∧ t 11 = .int .i64 i) ?_
        (m := xs.length) ⟨rfl, 0, by simp, by simp, t0, t1, t5, rfl, rfl⟩
      rintro J m' t g2 n2 hJ ⟨rfl, i, hm', hi, t0, t1, t5, t10, t11⟩
      simp only [bellowslaw17_TraceOf_l8, t0, t10, t11]
      refine hx1.len ?_
      simp only [kBin_lss, kSplit_b, decide_eq_true_eq, decide_eq_false_iff_not]
      refine ⟨fun hlt => ?_, fun hge => ?_⟩
      · have hlt : i < xs.length := by omega
        have he : xs[i]? = some xs[i] := List.getElem?_eq_getElem hlt
        generalize xs[i] = e at he
        have hcl := List.length_filter_le otherP (xs.take i)
        rw [List.length_take] at hcl
        have next : ∀ (t : Env) (n1 : Nat), t 0 = a0 → t 1 = .int .i64 core → t 5 = .int .i64 ((xs.filter (rangeP 21)).length : Nat) → t 10 = .int .i64 (((xs.take (i + 1)).filter otherP).length : Nat) → t 11 = .int .i64 i → bellowslaw17_TraceOf_j9 AC K J t g2 n1 := by
          intro t n1 t0 t1 t5 t10 t11
          simp only [bellowslaw17_TraceOf_j9, t11, kBin_add]
          rw [wrapNat (by omega)]
          exact hJ (xs.length - (i + 1)) _ _ _ (by omega) ⟨rfl, i + 1, rfl, by omega, t0, t1, t5, t10, rfl⟩
        have yes : otherP e = true → (Value.int .i64 (((xs.take i).filter otherP).length + 1 : Nat)) = .int .i64 (((xs.take (i + 1)).filter otherP).length : Nat) := by
          intro h; rw [take_add he]; simp [h]
        have no : otherP e = false → ((xs.take (i + 1)).filter otherP).length = ((xs.take i).filter otherP).length := by
          intro h; rw [take_add he]; simp [h]
        refine hx1.idx encE_len he (fun l o ha => ?_)
        simp only [kPtr_p]
        refine ha.ld (i := 0) rfl ?_
        simp only [kBin_lss, kBin_add, kSplit_b, decide_eq_true_eq, decide_eq_false_iff_not]
        rw [wrapNat (by omega)]
        refine ⟨fun h1 => next _ _ t0 t1 t5 (yes (by simp [otherP, h1])) t11, fun h1 => ?_⟩
        refine hx1.idx encE_len he (fun l o ha => ?_)
        simp only [kPtr_p]
        refine ha.ld (i := 0) rfl ?_
        simp only [kBin_eql, kBin_add, kSplit_b, decide_eq_true_eq, decide_eq_false_iff_not]
        refine ⟨fun h2 => next _ _ t0 t1 t5 (yes (by simp [otherP, h2])) t11, fun h2 => ?_⟩
        refine hx1.idx encE_len he (fun l o ha => ?_)
        simp only [kPtr_p]
        refine ha.ld (i := 0) rfl ?_
        simp only [kBin_gtr, kBin_add, kSplit_b, decide_eq_true_eq, decide_eq_false_iff_not]
        refine ⟨fun h3 => next _ _ t0 t1 t5 (yes (by simp [otherP, h3])) t11, fun h3 => next _ _ t0 t1 t5 ?_ t11⟩
        rw [no (by simp [otherP]; omega)]; exact t10
      · have hi' : i = xs.length := by omega
        subst hi'
        rw [List.take_length] at t10
        have hall := range_all xs
        have hcl := List.length_filter_le otherP xs
        unfold bellowslaw17_TraceOf_j10
        show kBin .int .add (t 5) (t 10) _
        rw [t5, t10]
        simp only [kBin_add]
        rw [wrap64_of (by omega) (by omega)]
        show kLen (t 0) _
        rw [t0]
        refine hx1.len ?_
        simp only [kBin_eql]
        refine kSplit_t (by simp; omega) ?_
        show AC _ [t 0, _, _] _ _ _
        rw [t0]
        refine Of_spec hx1 (by omega) (fun v107 g5 n5 hs5 ho5 => ?_)
        show AC _ [v107, t 0] _ _ _
        rw [t0]
        rw [of_all] at ho5
        refine Same_spec ho5.sl (hx1.mono hs5) (by omega) (fun n6 => ?_)
        refine kSplit_t (by simp) ?_
        show AC _ [t 0, _, t 1] _ _ _
        rw [t0, t1]
        refine Of_spec (hx1.mono hs5) (by omega) (fun v114 g7 n7 hs7 ho7 => ho7.sl.len ?_)
        show AC _ [t 0, t 1] _ _ _
        rw [t0, t1]
        refine Tells_spec (hx1.mono (hs5.trans hs7)) (by omega) (fun v118 g8 n8 hs8 ho8 => ho8.sl.len ?_)
        show AC _ [t 0, t 1] _ _ _
        rw [t0, t1]
        refine told_spec (hx1.mono (hs5.trans (hs7.trans hs8))) (by omega) (fun n9 => ?_)
        have htc := tell_count xs core
        have hl1 := List.length_filter_le (ofP 8 core) xs
        simp only [kBin_add, kBin_eql]
        rw [wrap64_of (by omega) (by omega)]
        refine kSplit_t (decide_eq_true (by omega)) ?_
        exact wakes_spec fun n10 => aRet_of (hs1.trans (hs5.trans (hs7.trans hs8))) (hK _)
  · show Value.int .i64 0 = _
    have : xs.filter (rangeP (-1)) = [] := by rw [List.filter_eq_nil_iff]; intro e _; simp [rangeP]; omega
    rw [this]; rfl
end Go.Proofs.Ytncodeibkmekmaa.Gen

namespace Go.Proofs.Ytncodeibkmekmaa.Gen
open Go Go.Proofs.Ytncodeibkmekmaa.Abs Go.RowKit
variable {g : G} {n : Nat}

/-- where the first such element stands -/
def idxOf {α : Type} (p : α → Bool) (xs : List α) : Option Nat := xs.findIdx? p
def idxV (o : Option Nat) : Value := match o with | some i => .int .i64 (i : Nat) | none => .int .i64 (-1)

theorem IndexFunc_Event_spec {v such : Value} (p : Ev → Bool) {xs : List Ev} (hv : Sl encE 5 g v xs)
    (hsuch : ∀ (g' : G) (n' : Nat) (e : Ev) (K : Cont), Sub g g' → (∀ n, K (.bool (p e)) g' n) → kCall AC such [.agg (encE e).toArray] g' n' K)
    (hlen : xs.length < 1000000) {K : Cont} (hK : ∀ n', K (idxV (xs.findIdx? p)) g n') : AC slices_IndexFunc_api_Event_api_Event_id [v, such] g n K := by
  refine ACalls.fold X0_mono ?_
  rw [← slices_IndexFunc_api_Event_api_Event_eq]
  simp only [slices_IndexFunc_api_Event_api_Event]
  refine hv.len ?_
  refine lfp_ind (fun m t g' n' => g' = g ∧ ∃ i : Nat, m = xs.length - i ∧ i ≤ xs.length ∧ t 0 = v ∧ t 1 = such ∧ t 7 = .int .i64 xs.length ∧ t 8 = .int .i64 i ∧ (∀ x ∈ xs.take i, p x = false)) ?_
    (m := xs.length) ⟨rfl, 0, by simp, by simp, rfl, rfl, rfl, rfl, by simp⟩
  rintro I m t g1 n1 hI ⟨rfl, i, hm, hi, h0, h1, h7, h8, hp⟩
  simp only [slices_IndexFunc_api_Event_api_Event_l1, h0, h1, h7, h8, kBin_lss, kSplit_b, decide_eq_true_eq, decide_eq_false_iff_not]
  refine ⟨fun hlt => ?_, fun hge => ?_⟩
  · have hlt : i < xs.length := by omega
    have he : xs[i]? = some xs[i] := List.getElem?_eq_getElem hlt
    have hei : xs[i] = xs[i] := rfl
    generalize hx : xs[i] = e at he
    refine hv.idx encE_len he (fun l o ha => ?_)
    simp only [kPtr_p]
    refine ha.ldN rfl ?_
    refine hsuch _ _ _ _ (Sub.refl _) (fun n2 => ?_)
    simp only [kSplit_b, kBin_add]
    refine ⟨fun hpe => aRet_of (Sub.refl _) ?_, fun hpe => ?_⟩
    · have : xs.findIdx? p = some i := by
        rw [List.findIdx?_eq_some_iff_getElem]
        refine ⟨hlt, by rw [hx]; exact hpe, fun j hj => ?_⟩
        have := hp xs[j] (List.mem_of_getElem? (i := j) (by rw [List.getElem?_take, if_pos hj, List.getElem?_eq_getElem]))
        simp [this]
      have := hK n2
      rw [‹xs.findIdx? p = some i›] at this
      exact this
    · rw [wrapNat (by omega)]
      refine hI (xs.length - (i + 1)) _ _ _ (by omega) ⟨rfl, i + 1, rfl, by omega, h0, h1, h7, rfl, ?_⟩
      intro x hx'
      rw [take_add he] at hx'
      rcases List.mem_append.1 hx' with h | h
      · exact hp x h
      · simp at h; subst h; exact hpe
  · have : i = xs.length := by omega
    subst this
    rw [List.take_length] at hp
    have h : xs.findIdx? p = none := by rw [List.findIdx?_eq_none_iff]; exact hp
    have := hK n1
    rw [h] at this
    exact aRet_of (Sub.refl _) this

def zeroE : Ev := ⟨0, 0, 0, 0, 0⟩
theorem filter_take_none {α : Type} {p : α → Bool} {xs : List α} {i : Nat} (h : ∀ x ∈ xs.take i, p x = false) : (xs.take i).filter (fun x => !p x) = xs.take i := by
  rw [List.filter_eq_self]; intro x hx; simp [h x hx]

theorem DeleteFunc_Event_spec {g0 : G} {v such : Value} (p : Ev → Bool) {xs : List Ev} (hv : OwnS encE 5 g0 g v xs) (hs0 : Sub g0 g)
    (hsuch : ∀ (g' : G) (n' : Nat) (e : Ev) (K : Cont), Sub g0 g' → (∀ n, K (.bool (p e)) g' n) → kCall AC such [.agg (encE e).toArray] g' n' K)
    (hlen : xs.length < 1000000) {K : Cont} (hK : ∀ v' g' n', Sub g0 g' → Sl encE 5 g' v' (xs.filter fun e => !p e) → K v' g' n') : AC slices_DeleteFunc_api_Event_api_Event_id [v, such] g n K := by
  refine ACalls.fold X0_mono ?_
  rw [← slices_DeleteFunc_api_Event_api_Event_eq]
  simp only [slices_DeleteFunc_api_Event_api_Event]
  refine IndexFunc_Event_spec p hv.sl (fun g' n' e K hs => hsuch g' n' e K (hs0.trans hs)) hlen (fun n1 => ?_)
  cases hidx : xs.findIdx? p with
  | none =>
    rw [List.findIdx?_eq_none_iff] at hidx
    simp only [idxV, kBin_eql]
    refine kSplit_t rfl (aRet_of (Sub.refl _) (hK _ _ _ hs0 ?_))
    have : xs.filter (fun e => !p e) = xs := by rw [List.filter_eq_self]; intro x hx; simp [hidx x hx]
    rw [this]; exact hv.sl
  | some i0 =>
    rw [List.findIdx?_eq_some_iff_getElem] at hidx
    obtain ⟨hi0, hpi, hbefore⟩ := hidx
    rcases hv with ⟨h, _⟩ | ⟨l, c, bk, rfl, hg, h0, hl, hck⟩
    · exact absurd hi0 (by omega)
    have hrw : bk.rw = true := by rcases hck with ⟨_, rfl, _⟩ | ⟨_, rfl⟩ <;> rfl
    simp only [idxV, kBin_eql, kBin_add]
    refine kSplit_f (by simp) ?_
    rw [wrapNat (by omega)]
    have hi0e : xs[i0]? = some xs[i0] := List.getElem?_eq_getElem hi0
    have hbf : ∀ x ∈ xs.take i0, p x = false := by
      intro x hx
      obtain ⟨j, hj⟩ := List.getElem?_of_mem hx
      rw [List.getElem?_take] at hj
      split at hj
      · rename_i hji
        have := hbefore j hji
        rw [List.getElem?_eq_getElem (by omega)] at hj
        cases hj
        simpa using this
      · cases hj
    have hf0 : (xs.take (i0 + 1)).filter (fun e => !p e) = xs.take i0 := by rw [take_add hi0e, List.filter_append, filter_take_none hbf]; simp [hpi]
    have hl0 : (xs.take i0).length = i0 := by rw [List.length_take]; omega
    refine lfp_ind (fun m t g' n' => Sub g0 g' ∧ ∃ (j : Nat) (ys : List Ev), m = xs.length - j ∧ j ≤ xs.length ∧ t 0 = .slice (some ⟨l, 0, none⟩) xs.length c ∧ t 1 = such ∧
        t 5 = .int .i64 (((xs.take j).filter fun e => !p e).length : Nat) ∧ t 6 = .int .i64 j ∧ ys.length = xs.length ∧ Blk1 encE g' l ys bk ∧ ((xs.take j).filter fun e => !p e).length < j ∧
        ys.take ((xs.take j).filter fun e => !p e).length = (xs.take j).filter (fun e => !p e) ∧ ys.drop j = xs.drop j) ?_
      (m := xs.length - (i0 + 1)) ⟨hs0, i0 + 1, xs, rfl, by omega, rfl, rfl, ?_, rfl, rfl, hg, ?_, ?_, rfl⟩
    · rintro I m t g1 n2 hI ⟨hs1, j, ys, hm, hj, t0, t1, t5, t6, hyl, hb, hfj, hyt, hyd⟩
      simp only [slices_DeleteFunc_api_Event_api_Event_l1, t0, t1, t5, t6, kLen_s, kBin_lss, kSplit_b, decide_eq_true_eq, decide_eq_false_iff_not]
      refine ⟨fun hlt => ?_, fun hge => ?_⟩
      · have hlt : j < xs.length := by omega
        have he : xs[j]? = some xs[j] := List.getElem?_eq_getElem hlt
        generalize xs[j] = e at he
        have hye : ys[j]? = some e := by
          have h1 := drop_get he
          rw [← hyd] at h1
          have : (ys.drop j)[0]? = some e := by rw [h1]; rfl
          simpa using this
        have hd1 : ys.drop (j + 1) = xs.drop (j + 1) := by
          have h1 := drop_get he
          rw [← hyd, drop_get hye] at h1
          exact (List.cons.inj h1).2
        refine kIndexAddr_s (by omega) (by omega) ?_
        simp only [kPtr_p, Int.toNat_natCast, Nat.zero_add]
        refine hb.ldN encE_len hye ?_
        intro hn2
        simp only [kAgg_a]
        refine ⟨rfl, kStN_of (upd_same _ _ _) rfl (by simp [encE]) (encE_cell e) ?_⟩
        have hs3 : Sub g1 _ := (((Sub.refl g1).new hn2 (some (.cells [(.int .i64 0), (.int .i64 0), (.int .i64 0), (.int .i64 0), (.int .u64 0)] .exact))).upd_fresh (some (.cells (encE e) .exact)) hn2)
        have hl3 : (upd (upd g1 n2 (some (.cells [(.int .i64 0), (.int .i64 0), (.int .i64 0), (.int .i64 0), (.int .u64 0)] .exact))) n2 (some (.cells (encE e) .exact))) n2 = some (.cells (encE e) .exact) := upd_same _ _ _
        refine kLdN_of (upd_same _ _ _) (by simp [encE, splice]) ?_
        refine hsuch _ _ e _ (hs1.trans hs3) (fun n3 => ?_)
        simp only [kUn_not, kSplit_b, kBin_add]
        have next : ∀ (t : Env) (g4 : G) (n1 : Nat) (zs : List Ev), Sub g0 g4 → t 0 = .slice (some ⟨l, 0, none⟩) xs.length c → t 1 = such → t 5 = .int .i64 (((xs.take (j + 1)).filter fun e => !p e).length : Nat) → t 6 = .int .i64 j → zs.length = xs.length → Blk1 encE g4 l zs bk →
            ((xs.take (j + 1)).filter fun e => !p e).length < j + 1 → zs.take ((xs.take (j + 1)).filter fun e => !p e).length = (xs.take (j + 1)).filter (fun e => !p e) → zs.drop (j + 1) = xs.drop (j + 1) → slices_DeleteFunc_api_Event_api_Event_j2 AC K I t g4 n1 := by
          intro t g4 n1 zs hs t0 t1 t5 t6 h1 h2 h3 h4 h5
          simp only [slices_DeleteFunc_api_Event_api_Event_j2, t6, kBin_add]
          rw [wrapNat (by omega)]
          exact hI (xs.length - (j + 1)) _ _ _ (by omega) ⟨hs, j + 1, zs, rfl, by omega, t0, t1, t5, rfl, h1, h2, h3, h4, h5⟩
        refine ⟨fun hpe => ?_, fun hpe => ?_⟩
        · have hpe : p e = false := by simpa using hpe
          have hf : (xs.take (j + 1)).filter (fun e => !p e) = (xs.take j).filter (fun e => !p e) ++ [e] := by rw [take_add he]; simp [hpe]
          refine kLdN_of hl3 (by simp [encE]) ?_
          refine kIndexAddr_s (by omega) (by omega) ?_
          simp only [kPtr_p, kAgg_a, Int.toNat_natCast, Nat.zero_add]
          refine ⟨rfl, (hb.mono hs3).stN (i := ((xs.take j).filter fun e => !p e).length) (y := e) encE_len encE_cell hrw (by omega) (fun hb' => ?_)⟩
          rw [wrapNat (by omega)]
          refine next _ _ _ (ys.set ((xs.take j).filter fun e => !p e).length e) ((hs1.trans hs3).upd_fresh _ h0) t0 t1 ?_ t6 (by simpa using hyl) hb' (by rw [hf]; simp; omega) ?_ ?_
          · show Value.int .i64 _ = _
            rw [hf]; simp
          · rw [hf, List.length_append, List.length_singleton, take_set_one (by omega), hyt]
          · rw [List.drop_set, if_pos (by omega)]; exact hd1
        · have hpe : p e = true := by simpa using hpe
          have hf : (xs.take (j + 1)).filter (fun e => !p e) = (xs.take j).filter (fun e => !p e) := by rw [take_add he]; simp [hpe]
          exact next _ _ _ ys (hs1.trans hs3) t0 t1 (by rw [hf]; exact t5) t6 hyl (hb.mono hs3) (by rw [hf]; omega) (by rw [hf]; exact hyt) hd1
      · have hje : j = xs.length := by omega
        subst hje
        rw [List.take_length] at hfj hyt t5
        simp only [slices_DeleteFunc_api_Event_api_Event_j3]
        show kSlice (t 0) (some (t 5)) none none 5 _
        rw [t0, t5]
        have hcc : (c < LC ∧ xs.length ≤ c) ∨ c = LC + 5 := by rcases hck with ⟨h1, _, h2⟩ | ⟨h1, _⟩ <;> omega
        refine kSlice_from hcc (by omega) (fun o' c' ho => ?_)
        rw [← hyl]
        have fin : ∀ (g4 : G) (zs : List Ev), Sub g0 g4 → zs.take (xs.filter fun e => !p e).length = xs.filter (fun e => !p e) → zs.length = ys.length → Blk1 encE g4 l zs bk → kSlice (puts t [(16, .int .i64 xs.length), (17, .slice (some ⟨l, 0, none⟩) ys.length c), (18, .int .i64 ys.length), (19, .bool (decide ((xs.length : Int) < (ys.length : Int))))] 0) none (some (puts t [(16, .int .i64 xs.length), (17, .slice (some ⟨l, 0, none⟩) ys.length c), (18, .int .i64 ys.length), (19, .bool (decide ((xs.length : Int) < (ys.length : Int))))] 5)) none 5 fun v41 => aRet K v41 g4 n2 := by
          intro g4 zs hs hz hl hb
          show kSlice (t 0) none (some (t 5)) none 5 _
          rw [t0, t5]
          refine kSlice_to hcc (by omega) (aRet_of (Sub.refl _) (hK _ _ _ hs ?_))
          have := hb.sl (i := 0) (m := (xs.filter fun e => !p e).length) (c := c) encE_len (by omega)
          rw [Nat.zero_mul, List.drop_zero, hz] at this
          exact this
        rw [hyl]
        rw [hyl] at fin
        rw [show xs.length - (xs.filter fun e => !p e).length = ys.length - (xs.filter fun e => !p e).length by rw [hyl]]
        refine Blk1.clear (y := zeroE) encE_len encE_cell hb hrw (by omega) (fun h => ho (by omega)) (fun h => fin _ ys hs1 hyt hyl hb) (fun zs h1 h2 h3 => fin _ zs (hs1.upd_fresh _ h0) (by rw [h1]; exact hyt) (by omega) h3)
    · show Value.int .i64 _ = _
      rw [hf0, hl0]
    · rw [hf0, hl0]; omega
    · rw [hf0, hl0]
end Go.Proofs.Ytncodeibkmekmaa.Gen

namespace Go.Proofs.Ytncodeibkmekmaa.Gen
open Go Go.Proofs.Ytncodeibkmekmaa.Abs Go.RowKit
variable {g : G} {n : Nat}

/-- a line: eight words -/
abbrev Ln := { w : List Int // w.length = 8 }
def encL (l : Ln) : List Value := l.1.map (.int .u64 ·)
theorem encL_len (l : Ln) : (encL l).length = 8 := by simp [encL, l.2]
theorem encL_cell (l : Ln) : ∀ v ∈ encL l, isCell v = true := by simp [encL, isCell]
def zeroL : Ln := ⟨[0, 0, 0, 0, 0, 0, 0, 0], rfl⟩
def Ln.put (l : Ln) (w : Nat) (v : Int) : Ln := ⟨l.1.set w v, by simp [l.2]⟩
theorem leaves_ints {k : IntKind} : ∀ (xs ys : List Int), xs.length = ys.length → leavesEq (List.replicate xs.length .i) (xs.map (.int k ·)) (ys.map (.int k ·)) = some (decide (xs = ys))
  | [], [], _ => rfl
  | [], _ :: _, h => by simp at h
  | _ :: _, [], h => by simp at h
  | x :: xs, y :: ys, h => by
    have ih := leaves_ints (k := k) xs ys (by simpa using h)
    simp only [List.length_cons, List.replicate_succ, List.map_cons, leavesEq, leafEq, if_true, ih, Option.some.injEq]
    rw [Bool.eq_iff_iff]; simp
theorem eqL (a b : Ln) (K : Value → Prop) (h : K (.bool (decide (a = b)))) : kBin (.agg [.i, .i, .i, .i, .i, .i, .i, .i]) .eql (.agg (encL a).toArray) (.agg (encL b).toArray) K := by
  have e := leaves_ints (k := .u64) a.1 b.1 (by rw [a.2, b.2])
  rw [a.2] at e
  have e' : leavesEq [.i, .i, .i, .i, .i, .i, .i, .i] (encL a) (encL b) = some (decide (a = b)) := by
    have : (decide (a = b)) = decide (a.1 = b.1) := by rw [Bool.eq_iff_iff]; simp [Subtype.ext_iff]
    rw [this]; exact e
  show (match leavesEq [.i, .i, .i, .i, .i, .i, .i, .i] (encL a) (encL b) with | some r => kCmp .eql r K | none => False)
  rw [e']
  exact h

theorem stores1p_spec {e : Ev} {ll : Nat} {line : Int} {bk : BK} (hl : g ll = some (.cells [.int .i64 line] bk)) {K : Cont}
    (hK : ∀ n', K (.bool (decide (e.line ≠ line))) g n') : AC persist_stores_1_id [.agg (encE e).toArray, ptr ll 0] g n K := by
  refine ACalls.fold X0_mono ?_
  rw [← persist_stores_1_eq]
  simp only [persist_stores_1, kAgg_a, kPtr_p]
  intro hn
  have hs : Sub g _ := (Sub.refl g).new hn (some (.cells (encE e) .exact))
  refine kLd_of (upd_same g n (some (.cells (encE e) .exact))) rfl ?_
  refine kLd_of (hs.live hl) rfl ?_
  simp only [kBin_neq]
  exact aRet_of hs (hK _)

def storeL (line : Int) (e : Ev) : Bool := decide (e.kind = 3) && decide (e.line = line)
theorem pstores_spec {v : Value} {xs : List Ev} {line : Int} (hv : Sl encE 5 g v xs) (hlen : xs.length < 1000000) {K : Cont}
    (hK : ∀ v' g' n', Sub g g' → Sl encE 5 g' v' (xs.filter (storeL line)) → K v' g' n') : AC persist_stores_id [v, .int .i64 line] g n K := by
  refine ACalls.fold X0_mono ?_
  rw [← persist_stores_eq]
  simp only [persist_stores]
  refine ⟨rfl, fun hn => ?_⟩
  have hs1 : Sub g _ := (Sub.refl g).new hn (some (.cells [.int .i64 line] .exact))
  have hc := upd_same g n (some (.cells [.int .i64 line] .exact))
  refine Of_spec (hv.mono hs1) hlen (fun v6 g2 n2 hs2 ho2 => ?_)
  refine DeleteFunc_Event_spec (fun e => decide (e.line ≠ line)) ho2 hs2 ?_ (Nat.lt_of_le_of_lt (List.length_filter_le _ _) hlen) ?_
  · intro g' n' e K hs hK
    exact stores1p_spec (hs.live hc) hK
  intro v' g' n' hs hsl
  refine aRet_of (Sub.refl _) (hK _ _ _ (hs1.trans hs) ?_)
  rw [List.filter_filter] at hsl
  have : (fun e : Ev => (!decide (e.line ≠ line)) && ofP 3 (-1) e) = storeL line := by
    funext e; rw [Bool.eq_iff_iff]; simp [ofP, storeL]; exact And.comm
  rw [this] at hsl
  exact hsl

/-- where the last push of a line stands, 0 if there is none -/
def lastTo (xs : List Ev) (line : Int) : Nat → Nat
  | 0 => 0
  | i + 1 => match xs[i]? with
    | some e => if e.kind = 5 ∧ e.line = line then i else lastTo xs line i
    | none => lastTo xs line i
theorem lastTo_succ (xs : List Ev) (line : Int) (i : Nat) : lastTo xs line (i + 1) = match xs[i]? with | some e => if e.kind = 5 ∧ e.line = line then i else lastTo xs line i | none => lastTo xs line i := rfl
theorem lastTo_le (xs : List Ev) (line : Int) : ∀ i, lastTo xs line i ≤ i
  | 0 => Nat.le_refl _
  | i + 1 => by
    have := lastTo_le xs line i
    unfold lastTo
    split
    · split <;> omega
    · omega
def sureN (xs : List Ev) (line : Int) : Nat := ((xs.take (lastTo xs line xs.length)).filter (storeL line)).length

theorem Sure_spec {v : Value} {xs : List Ev} {line : Int} (hv : Sl encE 5 g v xs) (hcap : Cap v 5) (hlen : xs.length < 1000000) {K : Cont}
    (hK : ∀ n', K (.int .i64 (sureN xs line)) g n') : AC persist_Sure_id [v, .int .i64 line] g n K := by
  refine ACalls.fold X0_mono ?_
  rw [← persist_Sure_eq]
  simp only [persist_Sure]
  refine hv.len ?_
  refine lfp_ind (fun m t g' n' => Sub g g' ∧ ∃ i : Nat, m = xs.length - i ∧ i ≤ xs.length ∧ t 0 = v ∧ t 1 = .int .i64 line ∧ t 5 = .int .i64 (lastTo xs line i : Nat) ∧ t 8 = v ∧ t 9 = .int .i64 xs.length ∧ t 10 = .int .i64 i) ?_
    (m := xs.length) ⟨Sub.refl _, 0, by simp, by simp, rfl, rfl, rfl, rfl, rfl, rfl⟩
  rintro I m t g1 n1 hI ⟨hs1, i, hm, hi, t0, t1, t5, t8, t9, t10⟩
  simp only [persist_Sure_l1, t0, t1, t5, t8, t9, t10, kBin_lss, kSplit_b, decide_eq_true_eq, decide_eq_false_iff_not]
  refine ⟨fun hlt => ?_, fun hge => ?_⟩
  · have hlt : i < xs.length := by omega
    have he : xs[i]? = some xs[i] := List.getElem?_eq_getElem hlt
    generalize xs[i] = e at he
    refine (hv.mono hs1).idx encE_len he (fun l o ha => ?_)
    simp only [kPtr_p]
    refine ha.ldN rfl ?_
    intro hn1
    simp only [kAgg_a]
    refine ⟨rfl, kStN_of (upd_same _ _ _) rfl (by simp [encE]) (encE_cell e) ?_⟩
    have hs3 : Sub g1 _ := (((Sub.refl g1).new hn1 (some (.cells [(.int .i64 0), (.int .i64 0), (.int .i64 0), (.int .i64 0), (.int .u64 0)] .exact))).upd_fresh (some (.cells (encE e) .exact)) hn1)
    have hl3 : (upd (upd g1 n1 (some (.cells [(.int .i64 0), (.int .i64 0), (.int .i64 0), (.int .i64 0), (.int .u64 0)] .exact))) n1 (some (.cells (encE e) .exact))) n1 = some (.cells (encE e) .exact) := upd_same _ _ _
    have no : ¬ (e.kind = 5 ∧ e.line = line) → lastTo xs line (i + 1) = lastTo xs line i := by
      intro h; rw [lastTo_succ, he]; exact if_neg h
    have yes : (e.kind = 5 ∧ e.line = line) → lastTo xs line (i + 1) = i := by
      intro h; rw [lastTo_succ, he]; exact if_pos h
    refine kLd_of hl3 rfl ?_
    simp only [kBin_eql, kSplit_b, kBin_add, decide_eq_true_eq, decide_eq_false_iff_not]
    rw [wrapNat (by omega)]
    refine ⟨fun hk => ?_, fun hk => hI (xs.length - (i + 1)) _ _ _ (by omega) ⟨hs1.trans hs3, i + 1, rfl, by omega, t0, t1, by rw [no (fun h => hk h.1)]; exact t5, t8, t9, rfl⟩⟩
    refine kLd_of hl3 rfl ?_
    simp only [kBin_eql, kSplit_b, kBin_add, decide_eq_true_eq, decide_eq_false_iff_not]
    refine ⟨fun hk2 => hI (xs.length - (i + 1)) _ _ _ (by omega) ⟨hs1.trans hs3, i + 1, rfl, by omega, t0, t1, by rw [yes ⟨hk, hk2⟩]; rfl, t8, t9, rfl⟩,
      fun hk2 => hI (xs.length - (i + 1)) _ _ _ (by omega) ⟨hs1.trans hs3, i + 1, rfl, by omega, t0, t1, by rw [no (fun h => hk2 h.2)]; exact t5, t8, t9, rfl⟩⟩
  · have : i = xs.length := by omega
    subst this
    simp only [persist_Sure_j2]
    show kSlice (t 0) none (some (t 5)) none 5 _
    rw [t0, t5]
    refine (hv.mono hs1).to encE_len hcap (lastTo_le _ _ _) (fun v' hv' _ => ?_)
    show AC _ [v', t 1] _ _ _
    rw [t1]
    refine pstores_spec hv' (by rw [List.length_take]; omega) (fun v2 g2 n2 hs2 hsl => hsl.len ?_)
    exact aRet_of (hs1.trans hs2) (hK _)

theorem splice_all {cs vs : List Value} (h : vs.length = cs.length) : splice cs 0 vs = vs := by simp [splice, h]
theorem is_spec {w : Int} {K : Cont} (hK : ∀ n', K (.bool (decide (0 ≤ w) && decide (w < 8))) g n') : AC word_is_id [.int .i64 w] g n K := by
  refine ACalls.fold X0_mono ?_
  rw [← word_is_eq]
  simp only [word_is, kBin_geq, kBin_lss, kSplit_b, decide_eq_true_eq, decide_eq_false_iff_not]
  refine ⟨fun h => aRet_of (Sub.refl _) (by simpa [h] using hK n), fun h => aRet_of (Sub.refl _) (by simpa [h] using hK n)⟩

theorem Put_spec {l : Ln} {w v : Int} {K : Cont} (hK : ∀ n', K (.agg (encL (if 0 ≤ w ∧ w < 8 then l.put w.toNat v else l)).toArray) g n') : AC word_Put_id [.agg (encL l).toArray, .int .i64 w, .int .u64 v] g n K := by
  refine ACalls.fold X0_mono ?_
  rw [← word_Put_eq]
  simp only [word_Put, kAgg_a]
  intro hn hn2
  have hs1 : Sub g _ := (Sub.refl g).new hn (some (.cells (encL l) .exact))
  have hs2 := hs1.new hn2 (some (.cells (encL zeroL) .exact))
  have hne : n ≠ n + 1 := by omega
  have hl3 : upd (upd g n (some (.cells (encL l) .exact))) (n + 1) (some (.cells (encL zeroL) .exact)) n = some (.cells (encL l) .exact) := by rw [upd_ne _ _ hne, upd_same]
  have hl6 := upd_same (upd g n (some (.cells (encL l) .exact))) (n + 1) (some (.cells (encL zeroL) .exact))
  refine is_spec fun n3 => ?_
  simp only [kSplit_b]
  refine ⟨fun h => ?_, fun h => ?_⟩
  · have h : 0 ≤ w ∧ w < 8 := by simpa using h
    refine ⟨h.1, h.2, ?_⟩
    simp only [kPtr_p, Nat.zero_add, Nat.mul_one]
    refine kSt_of hl3 rfl (by rw [encL_len]; omega) rfl ?_
    have e : (encL l).set w.toNat (.int .u64 v) = encL (l.put w.toNat v) := by simp [encL, Ln.put, List.map_set]
    rw [e]
    refine kLdN_of (upd_same _ _ _) (by rw [encL_len]; decide) ?_
    rw [List.drop_zero, List.take_of_length_le (by rw [encL_len]; exact Nat.le_refl _)]
    refine ⟨encL_len _, kStN_of (by rw [upd_ne _ _ (Ne.symm hne)]; exact hl6) rfl (by rw [encL_len, encL_len]; decide) (encL_cell _) ?_⟩
    refine kLdN_of (upd_same _ _ _) (by rw [splice_all (by rw [encL_len, encL_len]), encL_len]; decide) ?_
    rw [splice_all (by rw [encL_len, encL_len]), List.drop_zero, List.take_of_length_le (by rw [encL_len]; exact Nat.le_refl _)]
    have := hK n3
    rw [if_pos h] at this
    exact aRet_of ((hs2.upd_fresh _ hn).upd_fresh _ (hs1.none hn2)) this
  · have h : ¬ (0 ≤ w ∧ w < 8) := by simpa using h
    refine kLdN_of hl3 (by rw [encL_len]; decide) ?_
    rw [List.drop_zero, List.take_of_length_le (by rw [encL_len]; exact Nat.le_refl _)]
    refine ⟨encL_len _, kStN_of hl6 rfl (by rw [encL_len, encL_len]; decide) (encL_cell _) ?_⟩
    refine kLdN_of (upd_same _ _ _) (by rw [splice_all (by rw [encL_len, encL_len]), encL_len]; decide) ?_
    rw [splice_all (by rw [encL_len, encL_len]), List.drop_zero, List.take_of_length_le (by rw [encL_len]; exact Nat.le_refl _)]
    have := hK n3
    rw [if_neg h] at this
    exact aRet_of (hs2.upd_fresh _ (hs1.none hn2)) this
end Go.Proofs.Ytncodeibkmekmaa.Gen

namespace Go.Proofs.Ytncodeibkmekmaa.Gen
open Go Go.Proofs.Ytncodeibkmekmaa.Abs Go.RowKit
variable {g : G} {n : Nat}

def putE (l : Ln) (e : Ev) : Ln := if 0 ≤ e.word ∧ e.word < 8 then l.put e.word.toNat e.val else l
def histL : Ln → List Ev → List Ln
  | f, [] => [f]
  | f, e :: es => f :: histL (putE f e) es
theorem histL_len : ∀ (f : Ln) (es : List Ev), (histL f es).length = es.length + 1
  | f, [] => rfl
  | f, e :: es => by simp [histL, histL_len (putE f e) es]
theorem histL_zero (f : Ln) (es : List Ev) : (histL f es)[0]? = some f := by cases es <;> rfl
theorem histL_succ : ∀ (f : Ln) (es : List Ev) (i : Nat) (e : Ev) (x : Ln), es[i]? = some e → (histL f es)[i]? = some x → (histL f es)[i + 1]? = some (putE x e)
  | f, [], i, e, x, h, _ => by simp at h
  | f, e0 :: es, 0, e, x, h, hx => by
    simp at h; subst h
    rw [histL_zero] at hx
    cases hx
    show (histL (putE f e0) es)[0]? = _
    exact histL_zero _ _
  | f, e0 :: es, i + 1, e, x, h, hx => histL_succ (putE f e0) es i e x (by simpa using h) (by simpa [histL] using hx)

/-- one element of an exact slice as a slice -/
theorem kSlice_one {l c z i : Nat} {K : Value → Prop} (hc : c < LC) (hi : i < c) (k : K (.slice (some ⟨l, i * z, none⟩) 1 (c - i))) :
    kSlice (.slice (some ⟨l, 0, none⟩) c c) (some (.int .i64 i)) (some (.int .i64 ((i + 1 : Nat) : Int))) none z K := by
  simp only [kSlice, if_pos hc, kBound, kInt_i]
  refine ⟨by omega, by omega, by omega, by omega, ?_⟩
  simp only [Int.toNat_natCast]
  rw [if_neg (by omega), show i + 1 - i = 1 by omega]
  simp only [Option.map_some, addr_mk, Nat.zero_add]
  exact k

def histN (first : Ln) (xs : List Ev) (line : Int) : List Ln := histL first (xs.filter (storeL line))
theorem History_spec {first : Ln} {v : Value} {xs : List Ev} {line : Int} (hv : Sl encE 5 g v xs) (hlen : xs.length < 1000000) {K : Cont}
    (hK : ∀ v' g' n', Sub g g' → Sl encL 8 g' v' (histN first xs line) → Cap v' 8 → K v' g' n') : AC persist_History_id [.agg (encL first).toArray, v, .int .i64 line] g n K := by
  refine ACalls.fold X0_mono ?_
  rw [← persist_History_eq]
  simp only [persist_History, kAgg_a]
  intro hn
  have hs1 : Sub g _ := (Sub.refl g).new hn (some (.cells (encL first) .exact))
  have hl3 := upd_same g n (some (.cells (encL first) .exact))
  refine pstores_spec (hv.mono hs1) hlen (fun v13 g2 n2 hs2 hs => ?_)
  have hsl : (xs.filter (storeL line)).length < 1000000 := Nat.lt_of_le_of_lt (List.length_filter_le _ _) hlen
  have hH : histN first xs line = histL first (xs.filter (storeL line)) := rfl
  rw [hH] at hK
  generalize xs.filter (storeL line) = s at *
  refine hs.len ?_
  simp only [kBin_add]
  rw [wrapNat (by omega)]
  refine ⟨by omega, by omega, by omega, by omega, ?_⟩
  intro hn3
  simp only [Int.toNat_natCast]
  have hz8 : reps (s.length + 1) (encL zeroL) = ((List.replicate (s.length + 1) zeroL).map encL).flatten := flat_reps _ _
  have hs3 := (Sub.refl g2).new hn3 (some (.cells (reps (s.length + 1) (encL zeroL)) .exact))
  have hb0 : Blk1 encL (upd g2 n2 (some (.cells (reps (s.length + 1) (encL zeroL)) .exact))) n2 (List.replicate (s.length + 1) zeroL) .exact := by unfold Blk1; rw [upd_same, hz8]
  refine kLdN_of (hs3.live (hs2.live hl3)) (by rw [encL_len]; decide) ?_
  rw [List.drop_zero, List.take_of_length_le (by rw [encL_len]; exact Nat.le_refl _)]
  refine kIndexAddr_s (by omega) (by omega) ?_
  refine ⟨encL_len _, ?_⟩
  show kStN _ n2 (0 + (0 : Int).toNat * 8) (encL first) _
  have h00 : (0 + (0 : Int).toNat * 8) = 0 * 8 := rfl
  rw [h00]
  refine hb0.stN (y := first) encL_len encL_cell rfl (by simp) (fun hb1 => ?_)
  refine hs.len ?_
  have hg2l : g2 n2 = none := hn3
  have hs4 : Sub g2 _ := hs3.upd_fresh (some (.cells (((List.replicate (s.length + 1) zeroL).set 0 first).map encL).flatten .exact)) hn3
  refine lfp_ind (fun m t g' n' => Sub g2 g' ∧ ∃ (i : Nat) (ys : List Ln), m = s.length - i ∧ i ≤ s.length ∧ t 8 = .slice (some ⟨n2, 0, none⟩) (s.length + 1) (s.length + 1) ∧ t 21 = v13 ∧ t 22 = .int .i64 s.length ∧ t 23 = .int .i64 i ∧
      Blk1 encL g' n2 ys .exact ∧ ys.length = s.length + 1 ∧ ys.take (i + 1) = (histL first s).take (i + 1)) ?_
    (m := s.length) ⟨hs4, 0, (List.replicate (s.length + 1) zeroL).set 0 first, by simp, by simp, rfl, rfl, rfl, rfl, hb1, by simp, ?_⟩
  · rintro I m t g1 n1 hI ⟨hsg, i, ys, hm, hi, t8, t21, t22, t23, hb, hyl, hyt⟩
    simp only [persist_History_l1, t8, t21, t22, t23, kBin_lss, kSplit_b, decide_eq_true_eq, decide_eq_false_iff_not]
    refine ⟨fun hlt => ?_, fun hge => ?_⟩
    · have hlt : i < s.length := by omega
      have he : s[i]? = some s[i] := List.getElem?_eq_getElem hlt
      generalize s[i] = e at he
      have hHl := histL_len first s
      have hHi : (histL first s)[i]? = some (histL first s)[i] := List.getElem?_eq_getElem (by omega)
      generalize (histL first s)[i] = x at hHi
      have hHs := histL_succ first s i e x he hHi
      have hyi : ys[i]? = some x := by
        have : (ys.take (i + 1))[i]? = some x := by rw [hyt, List.getElem?_take, if_pos (by omega)]; exact hHi
        rw [List.getElem?_take, if_pos (by omega)] at this; exact this
      have hyi' : ∀ z, (ys.set (i + 1) z)[i]? = some x := fun z => by rw [List.getElem?_set_ne (by omega)]; exact hyi
      refine (hs.mono hsg).idx encE_len he (fun l o ha => ?_)
      simp only [kPtr_p]
      refine ha.ldN rfl ?_
      intro hn1
      simp only [kAgg_a]
      refine ⟨rfl, kStN_of (upd_same _ _ _) rfl (by simp [encE]) (encE_cell e) ?_⟩
      have hs5 : Sub g1 _ := (((Sub.refl g1).new hn1 (some (.cells [(.int .i64 0), (.int .i64 0), (.int .i64 0), (.int .i64 0), (.int .u64 0)] .exact))).upd_fresh (some (.cells (encE e) .exact)) hn1)
      have hl5 : (upd (upd g1 n1 (some (.cells [(.int .i64 0), (.int .i64 0), (.int .i64 0), (.int .i64 0), (.int .u64 0)] .exact))) n1 (some (.cells (encE e) .exact))) n1 = some (.cells (encE e) .exact) := upd_same _ _ _
      have hnn : n1 ≠ n2 := by intro h; subst h; exact absurd (hb.symm.trans hn1) (by simp)
      have hw : IntKind.i64.wrap ((i : Int) + 1) = ((i + 1 : Nat) : Int) := wrapNat (by omega)
      simp only [kBin_add, hw]
      have hLC : s.length + 1 < LC := by have : LC = 4611686018427387904 := rfl; omega
      refine kSlice_from (.inl ⟨hLC, Nat.le_refl _⟩) (by omega) (fun o' c' ho => ?_)
      have ho := ho (by omega)
      rw [Nat.zero_add] at ho
      subst ho
      refine kSlice_one hLC (by omega) ?_
      have hb5 := hb.mono hs5
      have hrd := hb5.sl (i := i) (m := 1) (c := s.length + 1 - i) encL_len (by omega)
      rw [show (ys.drop i).take 1 = [x] from by rw [drop_get hyi]; rfl] at hrd
      simp only [Sl, List.length_cons, List.length_nil, Nat.zero_add, List.map_cons, List.map_nil, List.flatten_cons, List.flatten_nil, List.append_nil] at hrd
      have hmin : min 1 (s.length + 1 - (i + 1)) = 1 := by omega
      simp only [kCopy, hmin]
      refine hrd.elems ⟨encL_cell _, ?_⟩
      have hnil : encL x ≠ [] := by intro h; have := encL_len x; rw [h] at this; cases this
      rw [if_neg hnil]
      refine hb5.stN (i := i + 1) (y := x) encL_len encL_cell rfl (by omega) (fun hb6 => ?_)
      have h2l : g2 n2 = none := hn3
      have hs6 := (hsg.trans hs5).upd_fresh (some (.cells ((ys.set (i + 1) x).map encL).flatten .exact)) h2l
      refine kIndexAddr_s (by omega) (by omega) ?_
      simp only [kPtr_p, Int.toNat_natCast, Nat.zero_add]
      refine hb6.ldN encL_len (x := x) (by rw [List.getElem?_set_self (by omega)]) ?_
      refine kLd_of (by rw [upd_ne _ _ hnn]; exact hl5) rfl ?_
      refine kLd_of (by rw [upd_ne _ _ hnn]; exact hl5) rfl ?_
      refine Put_spec fun n9 => ?_
      refine kIndexAddr_s (by omega) (by omega) ?_
      simp only [kPtr_p, Int.toNat_natCast, Nat.zero_add, kAgg_a]
      refine ⟨encL_len _, ?_⟩
      refine hb6.stN (i := i + 1) encL_len encL_cell rfl (by simp; omega) (fun hb7 => ?_)
      refine hI (s.length - (i + 1)) _ _ _ (by omega) ⟨hs6.upd_fresh _ h2l, i + 1, _, rfl, by omega, t8, t21, t22, rfl, hb7, by simpa using hyl, ?_⟩
      rw [take_set_one (by simp; omega), List.take_set_of_le (Nat.le_refl _), hyt]
      rw [take_add hHs]; rfl
    · have hge : i = s.length := by omega
      subst hge
      have hHl := histL_len first s
      rw [List.take_of_length_le (by omega), List.take_of_length_le (by omega)] at hyt
      subst hyt
      have := hb.sl (i := 0) (m := s.length + 1) (c := s.length + 1) encL_len (by omega)
      rw [Nat.zero_mul, List.drop_zero, List.take_of_length_le (by omega)] at this
      exact aRet_of (Sub.refl _) (hK _ _ _ (hs1.trans (hs2.trans hsg)) this (.inl ⟨by have : LC = 4611686018427387904 := rfl; omega, Nat.le_refl _⟩))
  · rw [take_set_one (by simp), List.take_zero, take_add (histL_zero first s), List.take_zero]
end Go.Proofs.Ytncodeibkmekmaa.Gen

namespace Go.Proofs.Ytncodeibkmekmaa.Gen
open Go Go.Proofs.Ytncodeibkmekmaa.Abs Go.RowKit
variable {g : G} {n : Nat}

theorem findIdx_some {α : Type} {p : α → Bool} {xs : List α} {i : Nat} {x : α} (he : xs[i]? = some x) (hp : p x = true) (hb : ∀ y ∈ xs.take i, p y = false) : xs.findIdx? p = some i := by
  have hlt := lt_of_get he
  rw [List.findIdx?_eq_some_iff_getElem]
  refine ⟨hlt, ?_, fun j hj => ?_⟩
  · rw [List.getElem?_eq_getElem hlt] at he; cases he; exact hp
  · have := hb xs[j] (List.mem_of_getElem? (i := j) (by rw [List.getElem?_take, if_pos hj, List.getElem?_eq_getElem]))
    simp [this]
theorem idx_none {α : Type} [DecidableEq α] {x : α} {xs : List α} (h : xs.findIdx? (fun y => decide (x = y)) = none) : x ∉ xs := by
  rw [List.findIdx?_eq_none_iff] at h
  exact fun hm => by simpa using h x hm
theorem idx_some {α : Type} [DecidableEq α] {x : α} {xs : List α} {i : Nat} (h : xs.findIdx? (fun y => decide (x = y)) = some i) : x ∈ xs := by
  rw [List.findIdx?_eq_some_iff_getElem] at h
  obtain ⟨hlt, hp, _⟩ := h
  have hp : x = xs[i] := by simpa using hp
  rw [hp]; exact List.getElem_mem hlt
theorem Index_Line_spec {v : Value} {x : Ln} {xs : List Ln} (hv : Sl encL 8 g v xs) (hlen : xs.length < 100000000) {K : Cont}
    (hK : ∀ n', K (idxV (xs.findIdx? fun y => decide (x = y))) g n') : AC slices_Index_api_Line_api_Line_id [v, .agg (encL x).toArray] g n K := by
  refine ACalls.fold X0_mono ?_
  rw [← slices_Index_api_Line_api_Line_eq]
  simp only [slices_Index_api_Line_api_Line, kAgg_a]
  intro hn
  have hs1 : Sub g _ := (Sub.refl g).new hn (some (.cells (encL x) .exact))
  have hl3 := upd_same g n (some (.cells (encL x) .exact))
  refine hv.len ?_
  refine lfp_ind (fun m t g' n' => g' = upd g n (some (.cells (encL x) .exact)) ∧ ∃ i : Nat, m = xs.length - i ∧ i ≤ xs.length ∧ t 0 = v ∧ t 3 = ptr n 0 ∧ t 7 = .int .i64 xs.length ∧ t 8 = .int .i64 i ∧ (∀ y ∈ xs.take i, decide (x = y) = false)) ?_
    (m := xs.length) ⟨rfl, 0, by simp, by simp, rfl, rfl, rfl, rfl, by simp⟩
  rintro I m t g1 n1 hI ⟨rfl, i, hm, hi, t0, t3, t7, t8, hp⟩
  simp only [slices_Index_api_Line_api_Line_l1, t0, t3, t7, t8, kBin_lss, kSplit_b, decide_eq_true_eq, decide_eq_false_iff_not, kPtr_p]
  refine ⟨fun hlt => ?_, fun hge => ?_⟩
  · have hlt : i < xs.length := by omega
    have he : xs[i]? = some xs[i] := List.getElem?_eq_getElem hlt
    generalize xs[i] = e at he
    refine kLdN_of hl3 (by rw [encL_len]; decide) ?_
    rw [List.drop_zero, List.take_of_length_le (by rw [encL_len]; exact Nat.le_refl _)]
    refine (hv.mono hs1).idx encL_len he (fun l o ha => ?_)
    simp only [kPtr_p]
    refine ha.ldN (encL_len e).symm (eqL _ _ _ ?_)
    simp only [kBin_add, kSplit_b, decide_eq_true_eq, decide_eq_false_iff_not]
    refine ⟨fun h => aRet_of hs1 ?_, fun h => ?_⟩
    · have := hK n1
      rw [findIdx_some he (by simpa using h) hp] at this
      exact this
    · rw [wrapNat (by omega)]
      refine hI (xs.length - (i + 1)) _ _ _ (by omega) ⟨rfl, i + 1, rfl, by omega, t0, t3, t7, rfl, ?_⟩
      intro y hy
      rw [take_add he] at hy
      rcases List.mem_append.1 hy with hy | hy
      · exact hp y hy
      · simp at hy; subst hy; simpa using h
  · have : i = xs.length := by omega
    subst this
    rw [List.take_length] at hp
    have h : xs.findIdx? (fun y => decide (x = y)) = none := by rw [List.findIdx?_eq_none_iff]; exact hp
    have := hK n1
    rw [h] at this
    exact aRet_of hs1 this

theorem Contains_Line_spec {v : Value} {x : Ln} {xs : List Ln} (hv : Sl encL 8 g v xs) (hlen : xs.length < 100000000) {K : Cont}
    (hK : ∀ n', K (.bool (decide (x ∈ xs))) g n') : AC slices_Contains_api_Line_api_Line_id [v, .agg (encL x).toArray] g n K := by
  refine ACalls.fold X0_mono ?_
  rw [← slices_Contains_api_Line_api_Line_eq]
  simp only [slices_Contains_api_Line_api_Line, kAgg_a]
  intro hn
  have hs1 : Sub g _ := (Sub.refl g).new hn (some (.cells (encL x) .exact))
  refine kLdN_of (upd_same _ _ _) (by rw [encL_len]; decide) ?_
  rw [List.drop_zero, List.take_of_length_le (by rw [encL_len]; exact Nat.le_refl _)]
  refine Index_Line_spec (hv.mono hs1) hlen (fun n1 => ?_)
  cases hf : xs.findIdx? (fun y => decide (x = y)) with
  | none =>
    have := hK n1
    rw [decide_eq_false (idx_none hf)] at this
    simp only [idxV, kBin_geq]; exact aRet_of hs1 this
  | some i =>
    have := hK n1
    rw [decide_eq_true (idx_some hf)] at this
    simp only [idxV, kBin_geq]; exact aRet_of hs1 (by rw [decide_eq_true (by omega)]; exact this)

theorem sure_le (xs : List Ev) (line : Int) : sureN xs line ≤ (xs.filter (storeL line)).length := by
  unfold sureN
  have e : xs = xs.take (lastTo xs line xs.length) ++ xs.drop (lastTo xs line xs.length) := (List.take_append_drop _ _).symm
  conv => rhs; rw [e]
  rw [List.filter_append, List.length_append]
  exact Nat.le_add_right _ _

def mayB (first left : Ln) (xs : List Ev) (line : Int) : Bool := decide (left ∈ (histN first xs line).drop (sureN xs line))
theorem May_spec {first left : Ln} {v : Value} {xs : List Ev} {line : Int} (hv : Sl encE 5 g v xs) (hcap : Cap v 5) (hlen : xs.length < 1000000) {K : Cont}
    (hK : ∀ n', K (.bool (mayB first left xs line)) g n') : AC persist_May_id [.agg (encL first).toArray, .agg (encL left).toArray, v, .int .i64 line] g n K := by
  refine ACalls.fold X0_mono ?_
  rw [← persist_May_eq]
  simp only [persist_May, kAgg_a]
  intro hn hn2
  have hs1 : Sub g _ := (Sub.refl g).new hn (some (.cells (encL first) .exact))
  have hs2 := hs1.new hn2 (some (.cells (encL left) .exact))
  have hl4 := upd_live (upd_same g n (some (.cells (encL first) .exact))) hn2 (some (.cells (encL left) .exact))
  have hl5 := upd_same (upd g n (some (.cells (encL first) .exact))) (n + 1) (some (.cells (encL left) .exact))
  refine kLdN_of hl4 (by rw [encL_len]; decide) ?_
  refine kLdN_of hl5 (by rw [encL_len]; decide) ?_
  rw [List.drop_zero, List.take_of_length_le (by rw [encL_len]; exact Nat.le_refl _), List.drop_zero, List.take_of_length_le (by rw [encL_len]; exact Nat.le_refl _)]
  refine History_spec (hv.mono hs2) hlen (fun v12 g3 n3 hs3 hsl hc => ?_)
  refine ⟨?_, ?_⟩
  · show g3 (n + 1) = _
    rw [hs3.live hl5, hl5]
  refine Sure_spec (hv.mono (hs2.trans hs3)) hcap hlen (fun n4 => ?_)
  refine ⟨rfl, ?_⟩
  have hH : (histN first xs line).length = (xs.filter (storeL line)).length + 1 := histL_len _ _
  have hsu := sure_le xs line
  have hfl := List.length_filter_le (storeL line) xs
  refine hsl.from encL_len hc (by omega) (fun v16 hv16 => ?_)
  refine Contains_Line_spec hv16 (by rw [List.length_drop]; omega) (fun n5 => ?_)
  exact aRet_of (hs2.trans hs3) (hK _)
end Go.Proofs.Ytncodeibkmekmaa.Gen

namespace Go.Proofs.Ytncodeibkmekmaa.Gen
open Go Go.Proofs.Ytncodeibkmekmaa.Abs Go.RowKit
variable {g : G} {n : Nat}

theorem Index_W_spec {v : Value} {x : Int} {xs : List Int} (hv : Sl encW 1 g v xs) (hlen : xs.length < 100000000) {K : Cont}
    (hK : ∀ n', K (idxV (xs.findIdx? fun y => decide (x = y))) g n') : AC slices_Index_uint64_uint64_id [v, .int .u64 x] g n K := by
  refine ACalls.fold X0_mono ?_
  rw [← slices_Index_uint64_uint64_eq]
  simp only [slices_Index_uint64_uint64]
  refine hv.len ?_
  refine lfp_ind (fun m t g' n' => g' = g ∧ ∃ i : Nat, m = xs.length - i ∧ i ≤ xs.length ∧ t 0 = v ∧ t 1 = .int .u64 x ∧ t 7 = .int .i64 xs.length ∧ t 8 = .int .i64 i ∧ (∀ y ∈ xs.take i, decide (x = y) = false)) ?_
    (m := xs.length) ⟨rfl, 0, by simp, by simp, rfl, rfl, rfl, rfl, by simp⟩
  rintro I m t g1 n1 hI ⟨rfl, i, hm, hi, t0, t1, t7, t8, hp⟩
  simp only [slices_Index_uint64_uint64_l1, t0, t1, t7, t8, kBin_lss, kSplit_b, decide_eq_true_eq, decide_eq_false_iff_not]
  refine ⟨fun hlt => ?_, fun hge => ?_⟩
  · have hlt : i < xs.length := by omega
    have he : xs[i]? = some xs[i] := List.getElem?_eq_getElem hlt
    generalize xs[i] = e at he
    refine hv.idx encW_len he (fun l o ha => ?_)
    simp only [kPtr_p]
    refine ha.ld (i := 0) rfl ?_
    simp only [kBin_eql, kBin_add, kSplit_b, decide_eq_true_eq, decide_eq_false_iff_not]
    refine ⟨fun h => aRet_of (Sub.refl _) ?_, fun h => ?_⟩
    · have := hK n1
      rw [findIdx_some he (by simpa using h) hp] at this
      exact this
    · rw [wrapNat (by omega)]
      refine hI (xs.length - (i + 1)) _ _ _ (by omega) ⟨rfl, i + 1, rfl, by omega, t0, t1, t7, rfl, ?_⟩
      intro y hy
      rw [take_add he] at hy
      rcases List.mem_append.1 hy with hy | hy
      · exact hp y hy
      · simp at hy; subst hy; simpa using h
  · have : i = xs.length := by omega
    subst this
    rw [List.take_length] at hp
    have h : xs.findIdx? (fun y => decide (x = y)) = none := by rw [List.findIdx?_eq_none_iff]; exact hp
    have := hK n1
    rw [h] at this
    exact aRet_of (Sub.refl _) this

theorem Contains_W_spec {v : Value} {x : Int} {xs : List Int} (hv : Sl encW 1 g v xs) (hlen : xs.length < 100000000) {K : Cont}
    (hK : ∀ n', K (.bool (decide (x ∈ xs))) g n') : AC slices_Contains_uint64_uint64_id [v, .int .u64 x] g n K := by
  refine ACalls.fold X0_mono ?_
  rw [← slices_Contains_uint64_uint64_eq]
  simp only [slices_Contains_uint64_uint64]
  refine Index_W_spec hv hlen (fun n1 => ?_)
  cases hf : xs.findIdx? (fun y => decide (x = y)) with
  | none =>
    have := hK n1
    rw [decide_eq_false (idx_none hf)] at this
    simp only [idxV, kBin_geq]; exact aRet_of (Sub.refl _) this
  | some i =>
    have := hK n1
    rw [decide_eq_true (idx_some hf)] at this
    simp only [idxV, kBin_geq]; exact aRet_of (Sub.refl _) (by rw [decide_eq_true (by omega)]; exact this)

theorem Word_spec {first left line word : Int} {v : Value} {xs : List Ev} (hv : Sl encE 5 g v xs) (hlen : xs.length < 1000000) {K : Cont}
    (hK : ∀ n', K (.bool (decide (left = first) || decide (left ∈ (xs.filter (storeP line word)).map Ev.val))) g n') : AC persist_Word_id [.int .u64 first, .int .u64 left, v, .int .i64 line, .int .i64 word] g n K := by
  refine ACalls.fold X0_mono ?_
  rw [← persist_Word_eq]
  simp only [persist_Word, kBin_eql, kSplit_b, decide_eq_true_eq, decide_eq_false_iff_not]
  refine ⟨fun h => aRet_of (Sub.refl _) (by have := hK n; rw [decide_eq_true h] at this; exact this), fun h => ?_⟩
  refine Stores_spec hv hlen (fun v18 g1 n1 hs1 ho => ?_)
  have hfl := List.length_filter_le (storeP line word) xs
  refine Contains_W_spec ho.sl (by rw [List.length_map]; omega) (fun n2 => aRet_of hs1 ?_)
  have := hK n2
  rw [decide_eq_false h] at this
  exact this

theorem store19_spec {x : Int} {K : Cont} (hK : ∀ n', K (.agg (encE ⟨3, 0, 3, 1, x⟩).toArray) g n') : AC bellowslaw19_store_id [.int .u64 x] g n K := by
  refine ACalls.fold X0_mono ?_
  rw [← bellowslaw19_store_eq]
  simp only [bellowslaw19_store]
  intro hn
  refine ⟨rfl, by decide, rfl, by decide, rfl, by decide, rfl, by decide, ?_⟩
  refine ⟨rfl, kStN_of (upd_same _ _ _) rfl (Nat.le_refl 5) (encE_cell ⟨3, 0, 3, 1, x⟩) ?_⟩
  refine kLdN_of (upd_same _ _ _) (Nat.le_refl 5) ?_
  exact aRet_of (((Sub.refl g).new hn _).upd_fresh _ hn) (hK _)

def wk19 : List Ev := [⟨3, 0, 3, 1, 1⟩, ⟨5, 0, 3, 0, 0⟩, ⟨3, 0, 3, 1, 2⟩]
def oneL : Ln := ⟨[0, 1, 0, 0, 0, 0, 0, 0], rfl⟩
theorem wakes19_spec {K : Cont} (hK : ∀ n', K (.bool true) g n') : AC bellowslaw19_wakes_id [] g n K := by
  refine ACalls.fold X0_mono ?_
  rw [← bellowslaw19_wakes_eq]
  simp only [bellowslaw19_wakes]
  refine store19_spec fun n1 => ?_
  refine ⟨rfl, by decide, rfl, by decide, ?_⟩
  refine store19_spec fun n2 => ?_
  refine ⟨rfl, by decide, rfl, by decide, rfl, by decide, ?_⟩
  intro hn
  have hs1 : Sub g _ := (Sub.refl g).new hn (some (.cells (wk19.map encE).flatten .exact))
  have hsl : Sl encE 5 _ (.slice (some ⟨n2, 0, none⟩) 3 3) wk19 := Rd.lit (upd_same g n2 (some (.cells (wk19.map encE).flatten .exact))) rfl
  have hcap : Cap (.slice (some ⟨n2, 0, none⟩) 3 3) 5 := .inl ⟨by decide, by decide⟩
  refine History_spec (first := zeroL) hsl (by decide) (fun v9 g4 n4 hs4 hh _ => ?_)
  rw [show histN zeroL wk19 3 = [zeroL, oneL, zeroL.put 1 2] from by decide] at hh
  refine hh.len ?_
  simp only [kBin_eql]
  refine kSplit_t rfl ?_
  refine hh.idx (j := 2) encL_len rfl (fun l o ha => ?_)
  refine ⟨by decide, by decide, ?_⟩
  simp only [kPtr_p]
  refine ha.ld (i := 1) rfl ?_
  simp only [kBin_eql]
  refine kSplit_t rfl ?_
  refine Sure_spec (hsl.mono hs4) hcap (by decide) (fun n5 => ?_)
  simp only [kBin_eql]
  refine kSplit_t (by decide) ?_
  refine May_spec (first := zeroL) (left := zeroL) (hsl.mono hs4) hcap (by decide) (fun n6 => ?_)
  simp only [kUn_not]
  refine kSplit_t (by decide) ?_
  refine ⟨rfl, by decide, rfl, by decide, ?_⟩
  refine May_spec (first := zeroL) (left := oneL) (hsl.mono hs4) hcap (by decide) (fun n7 => ?_)
  refine kSplit_t (by decide) ?_
  refine Word_spec (hsl.mono hs4) (by decide) (fun n8 => ?_)
  exact aRet_of (hs1.trans hs4) (hK _)
end Go.Proofs.Ytncodeibkmekmaa.Gen

namespace Go.Proofs.Ytncodeibkmekmaa.Gen
open Go Go.Proofs.Ytncodeibkmekmaa.Abs Go.RowKit
variable {g : G} {n : Nat}

def encB (i : Int) : List Value := [.int .u8 i]
theorem encB_len (i : Int) : (encB i).length = 1 := rfl
theorem encB_cell (i : Int) : ∀ v ∈ encB i, isCell v = true := by simp [encB, isCell]
def ev3 (k w x : Int) : List Ev := [⟨3, 0, k, w, x + 1⟩, ⟨3, 0, k + 1, w, 7⟩, ⟨5, 0, k + 1, 0, 0⟩]
def evA (k w : Int) (xs : List Int) : List Ev := (xs.map (ev3 k w)).flatten
def evB (k w : Int) (ys : List Int) : List Ev := ys.map fun y => ⟨3, 0, k, w, y + 1000⟩
theorem evA_len (k w : Int) : ∀ xs : List Int, (evA k w xs).length = 3 * xs.length
  | [] => rfl
  | x :: xs => by simp only [evA, List.map_cons, List.flatten_cons, List.length_append, List.length_cons] at *; have := evA_len k w xs; simp only [evA] at this; rw [this]; simp [ev3]; omega
theorem evA_snoc (k w : Int) (xs : List Int) (x : Int) : evA k w (xs ++ [x]) = evA k w xs ++ ev3 k w x := by simp [evA]
def evs (k w : Int) (xs ys : List Int) : List Ev := evA k w xs ++ [⟨5, 0, k, 0, 0⟩] ++ evB k w ys

/-- the plain law: what the history of the built events is -/
theorem evs_stores (k w : Int) (xs ys : List Int) : (evs k w xs ys).filter (storeL k) = (xs.map fun x => (⟨3, 0, k, w, x + 1⟩ : Ev)) ++ evB k w ys := by
  have hA : ∀ xs : List Int, (evA k w xs).filter (storeL k) = xs.map fun x => (⟨3, 0, k, w, x + 1⟩ : Ev) := by
    intro xs
    induction xs with
    | nil => rfl
    | cons x xs ih =>
      have e : evA k w (x :: xs) = ev3 k w x ++ evA k w xs := by simp [evA]
      rw [e, List.filter_append, ih]
      have h1 : ¬ (k + 1 = k) := by omega
      simp [ev3, storeL, h1]
  have hB : (evB k w ys).filter (storeL k) = evB k w ys := by
    rw [List.filter_eq_self]; intro e he; obtain ⟨y, _, rfl⟩ := List.mem_map.1 he; simp [storeL]
  simp only [evs, List.filter_append, hA, hB]
  simp [storeL]
theorem lastTo_none {xs : List Ev} {line : Int} {i j : Nat} (hij : i ≤ j) (h : ∀ m, i ≤ m → m < j → ∀ e, xs[m]? = some e → ¬ (e.kind = 5 ∧ e.line = line)) : lastTo xs line j = lastTo xs line i := by
  induction j with
  | zero => have : i = 0 := by omega
            subst this; rfl
  | succ j ih =>
    by_cases e : i = j + 1
    · subst e; rfl
    · rw [← ih (by omega) (fun m h1 h2 => h m h1 (by omega)), lastTo_succ]
      split
      · rename_i e he
        exact if_neg (h j (by omega) (by omega) e he)
      · rfl
theorem evs_last (k w : Int) (xs ys : List Int) : lastTo (evs k w xs ys) k (evs k w xs ys).length = 3 * xs.length := by
  have hl := evA_len k w xs
  have hlen : (evs k w xs ys).length = 3 * xs.length + 1 + ys.length := by simp [evs, evB, hl]; omega
  have hp : (evs k w xs ys)[3 * xs.length]? = some ⟨5, 0, k, 0, 0⟩ := by
    unfold evs
    rw [List.append_assoc, List.getElem?_append_right (by omega), hl]; simp
  rw [lastTo_none (i := 3 * xs.length + 1) (by omega)]
  · rw [lastTo_succ, hp]; simp
  · intro m h1 h2 e he hk
    unfold evs at he
    rw [List.getElem?_append_right (by simp; omega)] at he
    obtain ⟨y, _, rfl⟩ := List.mem_map.1 (List.mem_of_getElem? he)
    simp at hk
theorem evs_sure (k w : Int) (xs ys : List Int) : sureN (evs k w xs ys) k = xs.length := by
  unfold sureN
  rw [evs_last]
  have : (evs k w xs ys).take (3 * xs.length) = evA k w xs := by
    unfold evs
    rw [List.append_assoc, ← evA_len k w xs, List.take_left]
  rw [this]
  have := evs_stores k w xs []
  simp only [evs, evB, List.map_nil, List.append_nil, List.filter_append] at this
  have h2 : ([⟨5, 0, k, 0, 0⟩] : List Ev).filter (storeL k) = [] := by simp [storeL]
  rw [h2, List.append_nil] at this
  rw [this, List.length_map]

/-- the history of stores to one word -/
theorem histL_same (k w : Int) (hw : 0 ≤ w ∧ w < 8) : ∀ (l : Ln) (vs : List Int), histL l (vs.map fun v => (⟨3, 0, k, w, v⟩ : Ev)) = l :: vs.map fun v => l.put w.toNat v
  | l, [] => rfl
  | l, v :: vs => by
    have ih := histL_same k w hw (l.put w.toNat v) vs
    have e : putE l ⟨3, 0, k, w, v⟩ = l.put w.toNat v := by unfold putE; rw [if_pos hw]
    simp only [List.map_cons, histL, e, ih]
    congr 2
    refine List.map_congr_left fun u _ => ?_
    simp [Ln.put]

def atL (w : Int) (xs : List Int) : Ln := match xs.getLast? with
  | none => zeroL
  | some x => zeroL.put w.toNat (x + 1)
theorem evs_hist (k w : Int) (hw : 0 ≤ w ∧ w < 8) (xs ys : List Int) : histN zeroL (evs k w xs ys) k = zeroL :: ((xs.map (· + 1)) ++ ys.map (· + 1000)).map fun v => zeroL.put w.toNat v := by
  unfold histN
  rw [evs_stores]
  have e : (xs.map fun x => (⟨3, 0, k, w, x + 1⟩ : Ev)) ++ evB k w ys = ((xs.map (· + 1)) ++ ys.map (· + 1000)).map fun v => (⟨3, 0, k, w, v⟩ : Ev) := by simp only [evB, List.map_append, List.map_map]; rfl
  rw [e, histL_same k w hw]
theorem evs_tail (k w : Int) (hw : 0 ≤ w ∧ w < 8) (xs ys : List Int) : (histN zeroL (evs k w xs ys) k).drop (sureN (evs k w xs ys) k) = atL w xs :: ys.map fun y => zeroL.put w.toNat (y + 1000) := by
  rw [evs_hist k w hw, evs_sure]
  rcases List.eq_nil_or_concat xs with rfl | ⟨zs, x, rfl⟩
  · simp [atL]
  · have hl : (zs ++ [x]).length = zs.length + 1 := by simp
    simp only [List.concat_eq_append, hl, List.drop_succ_cons, List.map_append, List.append_assoc]
    rw [List.drop_left' (by simp)]
    simp [atL]
theorem put_inj {w : Nat} (hw : w < 8) {a b : Int} (h : zeroL.put w a = zeroL.put w b) : a = b := by
  have h1 : (zeroL.put w a).1[w]? = (zeroL.put w b).1[w]? := by rw [h]
  simp only [Ln.put] at h1
  rw [List.getElem?_set_self (by rw [zeroL.2]; exact hw), List.getElem?_set_self (by rw [zeroL.2]; exact hw)] at h1
  exact Option.some.inj h1
theorem zero_put {w : Nat} (hw : w < 8) : zeroL = zeroL.put w 0 := by
  apply Subtype.ext
  have : w = 0 ∨ w = 1 ∨ w = 2 ∨ w = 3 ∨ w = 4 ∨ w = 5 ∨ w = 6 ∨ w = 7 := by omega
  rcases this with rfl | rfl | rfl | rfl | rfl | rfl | rfl | rfl <;> rfl
theorem may_iff (k w : Int) (hw : 0 ≤ w ∧ w < 8) (xs ys : List Int) (x : Ln) : mayB zeroL x (evs k w xs ys) k = true ↔ x = atL w xs ∨ ∃ y ∈ ys, x = zeroL.put w.toNat (y + 1000) := by
  unfold mayB
  rw [decide_eq_true_eq, evs_tail k w hw]
  simp only [List.mem_cons, List.mem_map]
  constructor
  · rintro (h | ⟨y, hy, rfl⟩)
    · exact .inl h
    · exact .inr ⟨y, hy, rfl⟩
  · rintro (h | ⟨y, hy, rfl⟩)
    · exact .inl h
    · exact .inr ⟨y, hy, rfl⟩
end Go.Proofs.Ytncodeibkmekmaa.Gen

namespace Go.Proofs.Ytncodeibkmekmaa.Gen
open Go Go.Proofs.Ytncodeibkmekmaa.Abs Go.RowKit
variable {g : G} {n : Nat}

theorem kFill_ev4 {a b c d : Int} {K : List Value → Prop} (k : K (encE ⟨a, 0, b, c, d⟩)) : kFill (encE zeroE) [(0, none, .int .i64 a), (2, none, .int .i64 b), (3, none, .int .i64 c), (4, none, .int .u64 d)] K :=
  ⟨rfl, by simp [encE], rfl, by simp [encE], rfl, by simp [encE], rfl, by simp [encE], k⟩
theorem kFill_ev2 {a b : Int} {K : List Value → Prop} (k : K (encE ⟨a, 0, b, 0, 0⟩)) : kFill (encE zeroE) [(0, none, .int .i64 a), (2, none, .int .i64 b)] K :=
  ⟨rfl, by simp [encE], rfl, by simp [encE], k⟩
theorem kFill_3 {e1 e2 e3 : Ev} {K : List Value → Prop} (k : K (([e1, e2, e3].map encE).flatten)) :
    kFill (reps 3 (encE zeroE)) [(0, some 5, .agg (encE e1).toArray), (5, some 5, .agg (encE e2).toArray), (10, some 5, .agg (encE e3).toArray)] K :=
  ⟨rfl, by simp [reps, encE], rfl, by simp [reps, encE, splice], rfl, by simp [reps, encE, splice], k⟩
theorem kFill_1 {e1 : Ev} {K : List Value → Prop} (k : K (encE e1)) : kFill (reps 1 (encE zeroE)) [(0, some 5, .agg (encE e1).toArray)] K :=
  ⟨rfl, by simp [reps, encE], k⟩


theorem kBin_beq' {p q : Bool} {K : Value → Prop} (h : K (.bool (p == q))) : kBin .bool .eql (.bool p) (.bool q) K := h
theorem ldL {l : Nat} {x : Ln} {bk : BK} {K : List Value → Prop} (h : g l = some (.cells (encL x) bk)) (k : K (encL x)) : kLdN g l 0 8 K := by
  refine kLdN_of h (by rw [encL_len]; decide) ?_
  rw [List.drop_zero, List.take_of_length_le (by rw [encL_len]; exact Nat.le_refl _)]; exact k
theorem putL {l : Nat} {x : Ln} {w : Int} {v : Int} {K : Value → Nat → Nat → G → Prop} (hw : 0 ≤ w ∧ w < 8) (h : g l = some (.cells (encL x) .exact))
    (k : ∀ p l' o, upd g l (some (.cells (encL (x.put w.toNat v)) .exact)) l = some (.cells (encL (x.put w.toNat v)) .exact) → K p l' o (upd g l (some (.cells (encL (x.put w.toNat v)) .exact)))) :
    kIndexArr (ptr l 0) (.int .i64 w) 8 1 fun p => kPtr p fun l' o => kSt g l' o (.int .u64 v) (K p l' o) := by
  refine ⟨hw.1, hw.2, ?_⟩
  simp only [kPtr_p]
  refine kSt_of h rfl (by rw [encL_len]; omega) rfl ?_
  have e : (encL x).set (0 + w.toNat * 1) (.int .u64 v) = encL (x.put w.toNat v) := by simp [encL, Ln.put, List.map_set]
  rw [e]
  exact k _ _ _ (upd_same _ _ _)
section
variable {a0 a1 v9 : Value} {k w : Int} {xs ys : List Int} {gg : G} {K : Cont} {l12 : Nat}
/-- what is known behind the built events -/
structure PM (g gg : G) (a0 a1 v9 : Value) (k w : Int) (xs ys : List Int) (K : Cont) : Prop where
  hw : 0 ≤ w ∧ w < 8
  hx : ∀ x ∈ xs, 0 ≤ x ∧ x ≤ 255
  hy : ∀ x ∈ ys, 0 ≤ x ∧ x ≤ 255
  hxl : xs.length ≤ 40
  hyl : ys.length ≤ 40
  h0 : Sl encB 1 g a0 xs
  h1 : Sl encB 1 g a1 ys
  hs : Sub g gg
  hv : Sl encE 5 gg v9 (evs k w xs ys)
  hcap : Cap v9 5
  hK : ∀ n', K (.bool true) g n'
theorem PM.len (P : PM g gg a0 a1 v9 k w xs ys K) : (evs k w xs ys).length < 1000000 := by
  have := P.hxl; have := P.hyl
  simp [evs, evB, evA_len]; omega
theorem PM_j9 (P : PM g gg a0 a1 v9 k w xs ys K) {t : Env} {gh : G} (hs : Sub gg gh) (t0 : t 0 = a0) (t7 : t 7 = .int .i64 k) (t9 : t 9 = v9) : bellowslaw19_PersistMoments_j9 AC K t gh n := by
  have hw8 : w.toNat < 8 := by have := P.hw; omega
  simp only [bellowslaw19_PersistMoments_j9, t0, t7, t9]
  refine May_spec (first := zeroL) (left := zeroL) (P.hv.mono hs) P.hcap P.len (fun n2 => ?_)
  refine (P.h0.mono (P.hs.trans hs)).len ?_
  simp only [kBin_eql]
  refine kBin_beq' (kSplit_t ?_ (wakes19_spec fun n' => aRet_of (P.hs.trans hs) (P.hK _)))
  rw [beq_iff_eq, Bool.eq_iff_iff, may_iff k w P.hw, decide_eq_true_eq]
  constructor
  · rintro (h | ⟨y, hy, h⟩)
    · unfold atL at h
      cases hl : xs.getLast? with
      | none => rw [List.getLast?_eq_none_iff] at hl; subst hl; rfl
      | some x =>
        rw [hl] at h
        have := put_inj hw8 ((zero_put hw8).symm.trans h)
        have := P.hx x (List.mem_of_getLast? hl)
        omega
    · have := put_inj hw8 ((zero_put hw8).symm.trans h)
      have := P.hy y hy
      omega
  · intro h
    have : xs = [] := List.eq_nil_of_length_eq_zero (by omega)
    subst this
    exact .inl rfl
theorem PM_j7 (P : PM g gg a0 a1 v9 k w xs ys K) {t : Env} {gh : G} (hs : Sub gg gh) (hl12 : gh l12 = some (.cells (encL (atL w xs)) .exact)) (t0 : t 0 = a0) (t7 : t 7 = .int .i64 k) (t8 : t 8 = .int .i64 w) (t9 : t 9 = v9) (t12 : t 12 = ptr l12 0) : bellowslaw19_PersistMoments_j7 AC K t gh n := by
  have hw8 : w.toNat < 8 := by have := P.hw; omega
  unfold bellowslaw19_PersistMoments_j7
  refine lfp_ind (fun m t g' n' => Sub gh g' ∧ ∃ i : Nat, m = xs.length - i ∧ i ≤ xs.length ∧ t 0 = a0 ∧ t 7 = .int .i64 k ∧ t 8 = .int .i64 w ∧ t 9 = v9 ∧ t 12 = ptr l12 0 ∧ t 15 = .int .i64 i) ?_
    (m := xs.length) ⟨Sub.refl _, 0, by simp, by simp, t0, t7, t8, t9, t12, rfl⟩
  rintro I m t g1 n1 hI ⟨hs1, i, hm, hi, t0, t7, t8, t9, t12, t15⟩
  simp only [bellowslaw19_PersistMoments_l8, t0, t7, t8, t9, t12, t15]
  have hg := P.hs.trans (hs.trans hs1)
  refine (P.h0.mono hg).len ?_
  simp only [kBin_lss, kSplit_b, decide_eq_true_eq, decide_eq_false_iff_not]
  refine ⟨fun hlt => ?_, fun hge => PM_j9 P (hs.trans hs1) t0 t7 t9⟩
  have hlt : i < xs.length := by omega
  have he : xs[i]? = some xs[i] := List.getElem?_eq_getElem hlt
  generalize xs[i] = x at he
  have hxr := P.hx x (List.mem_of_getElem? he)
  have hxl := P.hxl
  intro hn
  generalize hgen : upd g1 n1 (some (Blk.cells [.int .u64 0, .int .u64 0, .int .u64 0, .int .u64 0, .int .u64 0, .int .u64 0, .int .u64 0, .int .u64 0] BK.exact)) = g2
  have hl : g2 n1 = some (.cells (encL zeroL) .exact) := by rw [← hgen]; exact upd_same _ _ _
  have hs2 : Sub g1 g2 := by rw [← hgen]; exact (Sub.refl g1).new hn _
  refine (P.h0.mono (hg.trans hs2)).idx encB_len he (fun l o ha => ?_)
  simp only [kPtr_p]
  refine ha.ld (i := 0) rfl ?_
  simp only [kConv_i, kBin_add]
  rw [IntWalk.u64_in x ⟨by omega, by omega⟩, IntWalk.u64_in (x + 1) ⟨by omega, by omega⟩]
  refine putL P.hw hl (fun _ _ _ hl2 => ?_)
  have hs3 := hs2.upd_fresh (some (.cells (encL (zeroL.put w.toNat (x + 1))) .exact)) hn
  simp only [kFill_nil]
  refine ldL hl2 (ldL hl2 (ldL (hs3.live (hs1.live hl12)) (eqL _ _ _ ?_)))
  refine May_spec (first := zeroL) (left := zeroL.put w.toNat (x + 1)) (P.hv.mono (hs.trans (hs1.trans hs3))) P.hcap P.len (fun n2 => ?_)
  refine ⟨rfl, rfl, ?_⟩
  have hb : mayB zeroL (zeroL.put w.toNat (x + 1)) (evs k w xs ys) k = decide (zeroL.put w.toNat (x + 1) = atL w xs) := by
    rw [Bool.eq_iff_iff, may_iff k w P.hw, decide_eq_true_eq]
    constructor
    · rintro (h | ⟨y, hy, h⟩)
      · exact h
      · have := put_inj hw8 h
        have := P.hy y hy
        omega
    · exact fun h => .inl h
  rw [hb]
  simp only [kBin_bneq]
  refine kSplit_f (by simp) ?_
  rw [wrapNat (by omega)]
  exact hI (xs.length - (i + 1)) _ _ _ (by omega) ⟨hs1.trans hs3, i + 1, rfl, by omega, t0, t7, t8, t9, t12, rfl⟩
end
end Go.Proofs.Ytncodeibkmekmaa.Gen

namespace Go.Proofs.Ytncodeibkmekmaa.Gen
open Go Go.Proofs.Ytncodeibkmekmaa.Abs Go.RowKit
variable {g : G} {n : Nat}

/-- a slot of an array -/
structure St where
  state : Int
  line : Int
  data : Ln
  used : Int
  deriving DecidableEq
def encS (s : St) : List Value := [.int .i64 s.state, .int .i64 s.line] ++ encL s.data ++ [.int .i64 s.used]
theorem encS_len (s : St) : (encS s).length = 11 := by simp [encS, encL_len]
theorem encS_cell (s : St) : ∀ v ∈ encS s, isCell v = true := by
  intro v hv
  simp only [encS, List.mem_append, List.mem_cons, List.not_mem_nil, or_false] at hv
  rcases hv with ((rfl | rfl) | h) | rfl
  · rfl
  · rfl
  · exact encL_cell _ v h
  · rfl
theorem ldS {l : Nat} {x : St} {bk : BK} {K : List Value → Prop} (h : g l = some (.cells (encS x) bk)) (k : K (encS x)) : kLdN g l 0 11 K := by
  refine kLdN_of h (by rw [encS_len]; decide) ?_
  rw [List.drop_zero, List.take_of_length_le (by rw [encS_len]; exact Nat.le_refl _)]; exact k
def zeroS : St := ⟨0, 0, zeroL, 0⟩
theorem encS_0 (s : St) : (encS s)[0]? = some (.int .i64 s.state) := rfl
theorem encS_1 (s : St) : (encS s)[1]? = some (.int .i64 s.line) := rfl
theorem encS_10 (s : St) : (encS s)[10]? = some (.int .i64 s.used) := by
  unfold encS
  rw [List.getElem?_append_right (by simp [encL_len])]
  simp [encL_len]

/-- the array's heap: the object at la, the slots at ls -/
structure Arr where
  sets : Nat
  ways : Nat
  l : List St
  used : Int
  deriving DecidableEq
def Arr.ok (A : Arr) : Prop := (A.sets = 1 ∨ A.sets = 2 ∨ A.sets = 4 ∨ A.sets = 8) ∧ 1 ≤ A.ways ∧ A.ways ≤ 8 ∧ A.l.length = A.sets * A.ways ∧ 0 ≤ A.used ∧ A.used < 1000000
def ArrC (A : Arr) (ls : Nat) : List Value := [.int .i64 A.sets, .int .i64 A.ways, .slice (some ⟨ls, 0, none⟩) (A.sets * A.ways) (A.sets * A.ways), .int .i64 A.used]
structure ArrH (g : G) (la ls : Nat) (A : Arr) : Prop where
  obj : g la = some (.cells (ArrC A ls) .exact)
  row : Blk1 encS g ls A.l .exact
  ne : la ≠ ls
theorem ArrH.mono {g g' : G} {la ls : Nat} {A : Arr} (h : ArrH g la ls A) (hs : Sub g g') : ArrH g' la ls A := ⟨hs.live h.obj, h.row.mono hs, h.ne⟩
theorem geomSet_spec {sets line : Int} (hs : sets = 1 ∨ sets = 2 ∨ sets = 4 ∨ sets = 8) (hl : 0 ≤ line) {K : Cont} (hK : ∀ n', K (.int .i64 (line % sets)) g n') : AC geom_Set_id [.int .i64 sets, .int .i64 line] g n K := by
  refine ACalls.fold X0_mono ?_
  rw [← geom_Set_eq]
  simp only [geom_Set, kBin_lss, kBin_eql]
  refine kSplit_f (by simpa using hl) ?_
  have j1 : ∀ (t : Env) (n : Nat), t 8 = .bool true → t 0 = .int .i64 sets → t 1 = .int .i64 line → geom_Set_j1 AC K t g n := by
    intro t n t8 t0 t1
    simp only [geom_Set_j1, t8, t0, t1, kBin_rem]
    refine ⟨by omega, aRet_of (Sub.refl _) ?_⟩
    rw [Int.tmod_eq_emod_of_nonneg hl]
    exact hK _
  rcases hs with rfl | rfl | rfl | rfl
  · exact kSplit_t rfl (j1 _ _ rfl rfl rfl)
  · exact kSplit_f rfl (kSplit_t rfl (j1 _ _ rfl rfl rfl))
  · exact kSplit_f rfl (kSplit_f rfl (kSplit_t rfl (j1 _ _ rfl rfl rfl)))
  · exact kSplit_f rfl (kSplit_f rfl (kSplit_f rfl (j1 _ _ rfl rfl rfl)))

/-- a part of an exact slice, closed behind -/
theorem kSlice_part {l c z i j : Nat} {K : Value → Prop} (hc : c < LC) (hij : i < j) (hj : j ≤ c) (k : K (.slice (some ⟨l, i * z, none⟩) (j - i) (j - i))) :
    kSlice (.slice (some ⟨l, 0, none⟩) c c) (some (.int .i64 (i : Nat))) (some (.int .i64 (j : Nat))) (some (.int .i64 (j : Nat))) z K := by
  simp only [kSlice, if_pos hc, kBound, kInt_i]
  refine ⟨by omega, by omega, by omega, by omega, by omega, by omega, ?_⟩
  simp only [Int.toNat_natCast]
  rw [if_neg (by omega)]
  simp only [Option.map_some, addr_mk, Nat.zero_add]
  exact k

def Arr.from (A : Arr) (line : Int) : Nat := (line % A.sets).toNat * A.ways
theorem Arr.from_le {A : Arr} (h : A.ok) {line : Int} (hl : 0 ≤ line) : A.from line + A.ways ≤ A.sets * A.ways := by
  obtain ⟨hs, hw, _⟩ := h
  have h1 : (line % A.sets).toNat + 1 ≤ A.sets := by
    have : line % (A.sets : Int) < A.sets := Int.emod_lt_of_pos _ (by omega)
    have : 0 ≤ line % (A.sets : Int) := Int.emod_nonneg _ (by omega)
    omega
  have := Nat.mul_le_mul_right A.ways h1
  rw [Nat.add_mul, Nat.one_mul] at this
  exact this
theorem Arr.small {A : Arr} (h : A.ok) : A.sets * A.ways ≤ 64 := by
  obtain ⟨hs, hw1, hw2, _⟩ := h
  have := Nat.mul_le_mul (show A.sets ≤ 8 by omega) hw2
  omega
def setV (ls : Nat) (A : Arr) (line : Int) : Value := .slice (some ⟨ls, A.from line * 11, none⟩) A.ways A.ways
theorem set_spec {A : Arr} {la ls : Nat} {line : Int} (hok : A.ok) (hh : ArrH g la ls A) (hl : 0 ≤ line) {K : Cont} (hK : ∀ n', K (setV ls A line) g n') : AC array_Array_set_id [ptr la 0, .int .i64 line] g n K := by
  refine ACalls.fold X0_mono ?_
  rw [← array_Array_set_eq]
  simp only [array_Array_set, kNil_p, kPtr_p, Nat.zero_add]
  have hf := Arr.from_le hok hl
  have hsm := Arr.small hok
  refine kLd_of hh.obj rfl ?_
  refine kLd_of hh.obj rfl ?_
  refine geomSet_spec (by have := hok.1; omega) hl (fun n1 => ?_)
  refine ⟨rfl, ?_⟩
  have hnn : 0 ≤ line % (A.sets : Int) := Int.emod_nonneg _ (by have := hok.1; omega)
  have e1 : (line % (A.sets : Int)) * (A.ways : Int) = (A.from line : Int) := by unfold Arr.from; rw [Int.natCast_mul, Int.toNat_of_nonneg hnn]
  have hw2 := hok.2.2.1
  simp only [kBin_mul]
  rw [e1, wrap64_of (by omega) (by omega)]
  refine kLd_of hh.obj rfl ?_
  refine kLd_of hh.obj rfl ?_
  simp only [kBin_add]
  rw [wrap64_of (by omega) (by omega)]
  refine kLd_of hh.obj rfl ?_
  simp only [kBin_add]
  rw [wrap64_of (by omega) (by omega), show (A.from line : Int) + (A.ways : Int) = ((A.from line + A.ways : Nat) : Int) by omega]
  have hw1 := hok.2.1
  refine kSlice_part (by have : LC = 4611686018427387904 := rfl; omega) (by omega) hf (aRet_of (Sub.refl _) ?_)
  rw [show A.from line + A.ways - A.from line = A.ways by omega]
  exact hK _
end Go.Proofs.Ytncodeibkmekmaa.Gen

namespace Go.Proofs.Ytncodeibkmekmaa.Gen
open Go Go.Proofs.Ytncodeibkmekmaa.Abs Go.RowKit
variable {g : G} {n : Nat}

theorem IndexFunc_Slot_spec {v such : Value} (p : St → Bool) {xs : List St} (hv : Sl encS 11 g v xs)
    (hsuch : ∀ (g' : G) (n' : Nat) (e : St) (K : Cont), Sub g g' → (∀ n, K (.bool (p e)) g' n) → kCall AC such [.agg (encS e).toArray] g' n' K)
    (hlen : xs.length < 1000000) {K : Cont} (hK : ∀ n', K (idxV (xs.findIdx? p)) g n') : AC slices_IndexFunc_array_Slot_array_Slot_id [v, such] g n K := by
  refine ACalls.fold X0_mono ?_
  rw [← slices_IndexFunc_array_Slot_array_Slot_eq]
  simp only [slices_IndexFunc_array_Slot_array_Slot]
  refine hv.len ?_
  refine lfp_ind (fun m t g' n' => g' = g ∧ ∃ i : Nat, m = xs.length - i ∧ i ≤ xs.length ∧ t 0 = v ∧ t 1 = such ∧ t 7 = .int .i64 xs.length ∧ t 8 = .int .i64 i ∧ (∀ x ∈ xs.take i, p x = false)) ?_
    (m := xs.length) ⟨rfl, 0, by simp, by simp, rfl, rfl, rfl, rfl, by simp⟩
  rintro I m t g1 n1 hI ⟨rfl, i, hm, hi, h0, h1, h7, h8, hp⟩
  simp only [slices_IndexFunc_array_Slot_array_Slot_l1, h0, h1, h7, h8, kBin_lss, kSplit_b, decide_eq_true_eq, decide_eq_false_iff_not]
  refine ⟨fun hlt => ?_, fun hge => ?_⟩
  · have hlt : i < xs.length := by omega
    have he : xs[i]? = some xs[i] := List.getElem?_eq_getElem hlt
    have hei : xs[i] = xs[i] := rfl
    generalize hx : xs[i] = e at he
    refine hv.idx encS_len he (fun l o ha => ?_)
    simp only [kPtr_p]
    refine ha.ldN (encS_len e).symm ?_
    refine hsuch _ _ _ _ (Sub.refl _) (fun n2 => ?_)
    simp only [kSplit_b, kBin_add]
    refine ⟨fun hpe => aRet_of (Sub.refl _) ?_, fun hpe => ?_⟩
    · have : xs.findIdx? p = some i := by
        rw [List.findIdx?_eq_some_iff_getElem]
        refine ⟨hlt, by rw [hx]; exact hpe, fun j hj => ?_⟩
        have := hp xs[j] (List.mem_of_getElem? (i := j) (by rw [List.getElem?_take, if_pos hj, List.getElem?_eq_getElem]))
        simp [this]
      have := hK n2
      rw [‹xs.findIdx? p = some i›] at this
      exact this
    · rw [wrapNat (by omega)]
      refine hI (xs.length - (i + 1)) _ _ _ (by omega) ⟨rfl, i + 1, rfl, by omega, h0, h1, h7, rfl, ?_⟩
      intro x hx'
      rw [take_add he] at hx'
      rcases List.mem_append.1 hx' with h | h
      · exact hp x h
      · simp at h; subst h; exact hpe
  · have : i = xs.length := by omega
    subst this
    rw [List.take_length] at hp
    have h : xs.findIdx? p = none := by rw [List.findIdx?_eq_none_iff]; exact hp
    have := hK n1
    rw [h] at this
    exact aRet_of (Sub.refl _) this

theorem DeleteFunc_Slot_spec {g0 : G} {v such : Value} (p : St → Bool) {xs : List St} (hv : OwnS encS 11 g0 g v xs) (hs0 : Sub g0 g)
    (hsuch : ∀ (g' : G) (n' : Nat) (e : St) (K : Cont), Sub g0 g' → (∀ n, K (.bool (p e)) g' n) → kCall AC such [.agg (encS e).toArray] g' n' K)
    (hlen : xs.length < 1000000) {K : Cont} (hK : ∀ v' g' n', Sub g0 g' → Sl encS 11 g' v' (xs.filter fun e => !p e) → K v' g' n') : AC slices_DeleteFunc_array_Slot_array_Slot_id [v, such] g n K := by
  refine ACalls.fold X0_mono ?_
  rw [← slices_DeleteFunc_array_Slot_array_Slot_eq]
  simp only [slices_DeleteFunc_array_Slot_array_Slot]
  refine IndexFunc_Slot_spec p hv.sl (fun g' n' e K hs => hsuch g' n' e K (hs0.trans hs)) hlen (fun n1 => ?_)
  cases hidx : xs.findIdx? p with
  | none =>
    rw [List.findIdx?_eq_none_iff] at hidx
    simp only [idxV, kBin_eql]
    refine kSplit_t rfl (aRet_of (Sub.refl _) (hK _ _ _ hs0 ?_))
    have : xs.filter (fun e => !p e) = xs := by rw [List.filter_eq_self]; intro x hx; simp [hidx x hx]
    rw [this]; exact hv.sl
  | some i0 =>
    rw [List.findIdx?_eq_some_iff_getElem] at hidx
    obtain ⟨hi0, hpi, hbefore⟩ := hidx
    rcases hv with ⟨h, _⟩ | ⟨l, c, bk, rfl, hg, h0, hl, hck⟩
    · exact absurd hi0 (by omega)
    have hrw : bk.rw = true := by rcases hck with ⟨_, rfl, _⟩ | ⟨_, rfl⟩ <;> rfl
    simp only [idxV, kBin_eql, kBin_add]
    refine kSplit_f (by simp) ?_
    rw [wrapNat (by omega)]
    have hi0e : xs[i0]? = some xs[i0] := List.getElem?_eq_getElem hi0
    have hbf : ∀ x ∈ xs.take i0, p x = false := by
      intro x hx
      obtain ⟨j, hj⟩ := List.getElem?_of_mem hx
      rw [List.getElem?_take] at hj
      split at hj
      · rename_i hji
        have := hbefore j hji
        rw [List.getElem?_eq_getElem (by omega)] at hj
        cases hj
        simpa using this
      · cases hj
    have hf0 : (xs.take (i0 + 1)).filter (fun e => !p e) = xs.take i0 := by rw [take_add hi0e, List.filter_append, filter_take_none hbf]; simp [hpi]
    have hl0 : (xs.take i0).length = i0 := by rw [List.length_take]; omega
    refine lfp_ind (fun m t g' n' => Sub g0 g' ∧ ∃ (j : Nat) (ys : List St), m = xs.length - j ∧ j ≤ xs.length ∧ t 0 = .slice (some ⟨l, 0, none⟩) xs.length c ∧ t 1 = such ∧
        t 5 = .int .i64 (((xs.take j).filter fun e => !p e).length : Nat) ∧ t 6 = .int .i64 j ∧ ys.length = xs.length ∧ Blk1 encS g' l ys bk ∧ ((xs.take j).filter fun e => !p e).length < j ∧
        ys.take ((xs.take j).filter fun e => !p e).length = (xs.take j).filter (fun e => !p e) ∧ ys.drop j = xs.drop j) ?_
      (m := xs.length - (i0 + 1)) ⟨hs0, i0 + 1, xs, rfl, by omega, rfl, rfl, ?_, rfl, rfl, hg, ?_, ?_, rfl⟩
    · rintro I m t g1 n2 hI ⟨hs1, j, ys, hm, hj, t0, t1, t5, t6, hyl, hb, hfj, hyt, hyd⟩
      simp only [slices_DeleteFunc_array_Slot_array_Slot_l1, t0, t1, t5, t6, kLen_s, kBin_lss, kSplit_b, decide_eq_true_eq, decide_eq_false_iff_not]
      refine ⟨fun hlt => ?_, fun hge => ?_⟩
      · have hlt : j < xs.length := by omega
        have he : xs[j]? = some xs[j] := List.getElem?_eq_getElem hlt
        generalize xs[j] = e at he
        have hye : ys[j]? = some e := by
          have h1 := drop_get he
          rw [← hyd] at h1
          have : (ys.drop j)[0]? = some e := by rw [h1]; rfl
          simpa using this
        have hd1 : ys.drop (j + 1) = xs.drop (j + 1) := by
          have h1 := drop_get he
          rw [← hyd, drop_get hye] at h1
          exact (List.cons.inj h1).2
        refine kIndexAddr_s (by omega) (by omega) ?_
        simp only [kPtr_p, Int.toNat_natCast, Nat.zero_add]
        refine hb.ldN encS_len hye ?_
        intro hn2
        simp only [kAgg_a]
        refine ⟨encS_len e, kStN_of (upd_same _ _ _) rfl (by rw [encS_len]; decide) (encS_cell e) ?_⟩
        have hs3 : Sub g1 _ := (((Sub.refl g1).new hn2 (some (.cells [(.int .i64 0), (.int .i64 0), (.int .u64 0), (.int .u64 0), (.int .u64 0), (.int .u64 0), (.int .u64 0), (.int .u64 0), (.int .u64 0), (.int .u64 0), (.int .i64 0)] .exact))).upd_fresh (some (.cells (encS e) .exact)) hn2)
        have hl3 : (upd (upd g1 n2 (some (.cells [(.int .i64 0), (.int .i64 0), (.int .u64 0), (.int .u64 0), (.int .u64 0), (.int .u64 0), (.int .u64 0), (.int .u64 0), (.int .u64 0), (.int .u64 0), (.int .i64 0)] .exact))) n2 (some (.cells (encS e) .exact))) n2 = some (.cells (encS e) .exact) := upd_same _ _ _
        rw [splice_all (cs := [(.int .i64 0), (.int .i64 0), (.int .u64 0), (.int .u64 0), (.int .u64 0), (.int .u64 0), (.int .u64 0), (.int .u64 0), (.int .u64 0), (.int .u64 0), (.int .i64 0)]) (vs := encS e) (by rw [encS_len]; rfl)]
        refine ldS (upd_same _ _ _) ?_
        refine hsuch _ _ e _ (hs1.trans hs3) (fun n3 => ?_)
        simp only [kUn_not, kSplit_b, kBin_add]
        have next : ∀ (t : Env) (g4 : G) (n1 : Nat) (zs : List St), Sub g0 g4 → t 0 = .slice (some ⟨l, 0, none⟩) xs.length c → t 1 = such → t 5 = .int .i64 (((xs.take (j + 1)).filter fun e => !p e).length : Nat) → t 6 = .int .i64 j → zs.length = xs.length → Blk1 encS g4 l zs bk →
            ((xs.take (j + 1)).filter fun e => !p e).length < j + 1 → zs.take ((xs.take (j + 1)).filter fun e => !p e).length = (xs.take (j + 1)).filter (fun e => !p e) → zs.drop (j + 1) = xs.drop (j + 1) → slices_DeleteFunc_array_Slot_array_Slot_j2 AC K I t g4 n1 := by
          intro t g4 n1 zs hs t0 t1 t5 t6 h1 h2 h3 h4 h5
          simp only [slices_DeleteFunc_array_Slot_array_Slot_j2, t6, kBin_add]
          rw [wrapNat (by omega)]
          exact hI (xs.length - (j + 1)) _ _ _ (by omega) ⟨hs, j + 1, zs, rfl, by omega, t0, t1, t5, rfl, h1, h2, h3, h4, h5⟩
        refine ⟨fun hpe => ?_, fun hpe => ?_⟩
        · have hpe : p e = false := by simpa using hpe
          have hf : (xs.take (j + 1)).filter (fun e => !p e) = (xs.take j).filter (fun e => !p e) ++ [e] := by rw [take_add he]; simp [hpe]
          refine ldS hl3 ?_
          refine kIndexAddr_s (by omega) (by omega) ?_
          simp only [kPtr_p, kAgg_a, Int.toNat_natCast, Nat.zero_add]
          refine ⟨encS_len e, (hb.mono hs3).stN (i := ((xs.take j).filter fun e => !p e).length) (y := e) encS_len encS_cell hrw (by omega) (fun hb' => ?_)⟩
          rw [wrapNat (by omega)]
          refine next _ _ _ (ys.set ((xs.take j).filter fun e => !p e).length e) ((hs1.trans hs3).upd_fresh _ h0) t0 t1 ?_ t6 (by simpa using hyl) hb' (by rw [hf]; simp; omega) ?_ ?_
          · show Value.int .i64 _ = _
            rw [hf]; simp
          · rw [hf, List.length_append, List.length_singleton, take_set_one (by omega), hyt]
          · rw [List.drop_set, if_pos (by omega)]; exact hd1
        · have hpe : p e = true := by simpa using hpe
          have hf : (xs.take (j + 1)).filter (fun e => !p e) = (xs.take j).filter (fun e => !p e) := by rw [take_add he]; simp [hpe]
          exact next _ _ _ ys (hs1.trans hs3) t0 t1 (by rw [hf]; exact t5) t6 hyl (hb.mono hs3) (by rw [hf]; omega) (by rw [hf]; exact hyt) hd1
      · have hje : j = xs.length := by omega
        subst hje
        rw [List.take_length] at hfj hyt t5
        simp only [slices_DeleteFunc_array_Slot_array_Slot_j3]
        show kSlice (t 0) (some (t 5)) none none 11 _
        rw [t0, t5]
        have hcc : (c < LC ∧ xs.length ≤ c) ∨ c = LC + 11 := by rcases hck with ⟨h1, _, h2⟩ | ⟨h1, _⟩ <;> omega
        refine kSlice_from hcc (by omega) (fun o' c' ho => ?_)
        rw [← hyl]
        have fin : ∀ (g4 : G) (zs : List St), Sub g0 g4 → zs.take (xs.filter fun e => !p e).length = xs.filter (fun e => !p e) → zs.length = ys.length → Blk1 encS g4 l zs bk → kSlice (puts t [(16, .int .i64 xs.length), (17, .slice (some ⟨l, 0, none⟩) ys.length c), (18, .int .i64 ys.length), (19, .bool (decide ((xs.length : Int) < (ys.length : Int))))] 0) none (some (puts t [(16, .int .i64 xs.length), (17, .slice (some ⟨l, 0, none⟩) ys.length c), (18, .int .i64 ys.length), (19, .bool (decide ((xs.length : Int) < (ys.length : Int))))] 5)) none 11 fun v41 => aRet K v41 g4 n2 := by
          intro g4 zs hs hz hl hb
          show kSlice (t 0) none (some (t 5)) none 11 _
          rw [t0, t5]
          refine kSlice_to hcc (by omega) (aRet_of (Sub.refl _) (hK _ _ _ hs ?_))
          have := hb.sl (i := 0) (m := (xs.filter fun e => !p e).length) (c := c) encS_len (by omega)
          rw [Nat.zero_mul, List.drop_zero, hz] at this
          exact this
        rw [hyl]
        rw [hyl] at fin
        rw [show xs.length - (xs.filter fun e => !p e).length = ys.length - (xs.filter fun e => !p e).length by rw [hyl]]
        refine Blk1.clear (y := zeroS) encS_len encS_cell hb hrw (by omega) (fun h => ho (by omega)) (fun h => fin _ ys hs1 hyt hyl hb) (fun zs h1 h2 h3 => fin _ zs (hs1.upd_fresh _ h0) (by rw [h1]; exact hyt) (by omega) h3)
    · show Value.int .i64 _ = _
      rw [hf0, hl0]
    · rw [hf0, hl0]; omega
    · rw [hf0, hl0]
end Go.Proofs.Ytncodeibkmekmaa.Gen

namespace Go.Proofs.Ytncodeibkmekmaa.Gen
open Go Go.Proofs.Ytncodeibkmekmaa.Abs Go.RowKit
variable {g : G} {n : Nat}

/-! what the array's functions come to, in plain words -/
def Arr.part (A : Arr) (line : Int) : List St := (A.l.drop (A.from line)).take A.ways
def Arr.at (A : Arr) (line : Int) : Option Nat := if line < 0 then none else (A.part line).findIdx? fun s => decide (s.state ≠ 0) && decide (s.line = line)
def Arr.free (A : Arr) (line : Int) : Option Nat := (A.part line).findIdx? fun s => decide (s.state = 0)
def Arr.put (A : Arr) (line : Int) (k : Nat) (s : St) : Arr := { A with l := A.l.set (A.from line + k) s }
def Arr.tick (A : Arr) : Arr := { A with used := A.used + 1 }
def Arr.set (A : Arr) (line state : Int) (d : Ln) : Int × Arr :=
  if line < 0 ∨ state < 1 ∨ 9 < state then (1, A) else
  match (A.at line).or (A.free line) with
  | none => (13, A)
  | some k => (0, A.tick.put line k ⟨state, line, d, A.used + 1⟩)
def Arr.slotAt (A : Arr) (line : Int) (k : Nat) : St := A.l.getD (A.from line + k) zeroS
def Arr.touch (A : Arr) (line : Int) : Arr := match A.at line with
  | none => A
  | some k => A.tick.put line k { A.slotAt line k with used := A.used + 1 }
def Arr.drop (A : Arr) (line : Int) : Arr := match A.at line with
  | none => A
  | some k => A.put line k zeroS
def Arr.find (A : Arr) (line : Int) : St × Bool := match A.at line with
  | none => (zeroS, false)
  | some k => (A.slotAt line k, true)
/-- the scan for room: what was found up to now -/
def roomScan : List St → Int → Int → Bool × Int
  | [], v, _ => (false, v)
  | s :: l, v, last => if s.state = 0 then (true, -1) else
    if 1 ≤ s.state ∧ s.state ≤ 3 ∧ (v < 0 ∨ s.used < last) then roomScan l s.line s.used else roomScan l v last
def Arr.room (A : Arr) (line : Int) : Bool × Int := if line < 0 then (false, -1) else roomScan (A.part line) (-1) 0
def Arr.slots (A : Arr) : List St := A.l.filter fun s => !decide (s.state = 0)

theorem Arr.part_len {A : Arr} (h : A.ok) {line : Int} (hl : 0 ≤ line) : (A.part line).length = A.ways := by
  have h1 := Arr.from_le h hl
  have h2 := h.2.2.2.1
  unfold Arr.part
  rw [List.length_take, List.length_drop]; omega
theorem Arr.part_get {A : Arr} (h : A.ok) {line : Int} (hl : 0 ≤ line) {k : Nat} (hk : k < A.ways) : (A.part line)[k]? = some (A.slotAt line k) := by
  have h1 := Arr.from_le h hl
  have h2 := h.2.2.2.1
  unfold Arr.part Arr.slotAt
  rw [List.getElem?_take, if_pos hk, List.getElem?_drop, List.getD_eq_getElem?_getD, List.getElem?_eq_getElem (by omega)]; rfl
theorem Arr.at_lt {A : Arr} (h : A.ok) {line : Int} {k : Nat} (hk : A.at line = some k) : 0 ≤ line ∧ k < A.ways := by
  unfold Arr.at at hk
  split at hk
  · cases hk
  · have := List.findIdx?_eq_some_iff_getElem.1 hk
    obtain ⟨h1, _⟩ := this
    rw [Arr.part_len h (by omega)] at h1
    exact ⟨by omega, h1⟩
theorem Arr.free_lt {A : Arr} (h : A.ok) {line : Int} (hl : 0 ≤ line) {k : Nat} (hk : A.free line = some k) : k < A.ways := by
  obtain ⟨h1, _⟩ := List.findIdx?_eq_some_iff_getElem.1 hk
  rw [Arr.part_len h hl] at h1
  exact h1
theorem Arr.put_ok {A : Arr} (h : A.ok) (line : Int) (k : Nat) (s : St) : (A.put line k s).ok := by
  obtain ⟨h1, h2, h3, h4, h5⟩ := h
  exact ⟨h1, h2, h3, by simp [Arr.put, h4], h5⟩

/-! the functions -/
theorem at1_spec {l3 : Nat} {e : St} {line : Int} (hl : g l3 = some (.cells [.int .i64 line] .exact)) {K : Cont} (hK : ∀ n', K (.bool (decide (e.state ≠ 0) && decide (e.line = line))) g n') :
    AC array_Array_at_1_id [.agg (encS e).toArray, ptr l3 0] g n K := by
  refine ACalls.fold X0_mono ?_
  rw [← array_Array_at_1_eq]
  simp only [array_Array_at_1, kAgg_a]
  intro hn
  have hs := (Sub.refl g).new hn (some (.cells (encS e) .exact))
  refine kLd_of (upd_same _ _ _) (encS_0 e) ?_
  simp only [kBin_neq, kSplit_b, decide_eq_true_eq, decide_eq_false_iff_not, kPtr_p]
  refine ⟨fun h => ?_, fun h => ?_⟩
  · refine kLd_of (upd_same _ _ _) (encS_1 e) ?_
    refine kLd_of (hs.live hl) rfl ?_
    simp only [kBin_eql]
    refine aRet_of hs ?_
    have := hK n
    rw [decide_eq_true h, Bool.true_and] at this
    exact hK _ |> fun k => by rw [decide_eq_true h, Bool.true_and] at k; exact k
  · exact aRet_of hs (by have k := hK (n + 1); rw [decide_eq_false h, Bool.false_and] at k; exact k)

theorem empty_spec {e : St} {K : Cont} (hK : ∀ n', K (.bool (decide (e.state = 0))) g n') : AC array_empty_id [.agg (encS e).toArray] g n K := by
  refine ACalls.fold X0_mono ?_
  rw [← array_empty_eq]
  simp only [array_empty, kAgg_a]
  intro hn
  refine kLd_of (upd_same _ _ _) (encS_0 e) ?_
  simp only [kBin_eql]
  exact aRet_of ((Sub.refl g).new hn _) (hK _)

theorem setV_sl {A : Arr} {la ls : Nat} {line : Int} (hok : A.ok) (hh : ArrH g la ls A) (hl : 0 ≤ line) : Sl encS 11 g (setV ls A line) (A.part line) := by
  have h1 := Arr.from_le hok hl
  exact hh.row.sl encS_len (by rw [hok.2.2.2.1]; exact h1)

theorem at_spec {A : Arr} {la ls : Nat} {line : Int} (hok : A.ok) (hh : ArrH g la ls A) {K : Cont} (hK : ∀ n', K (idxV (A.at line)) g n') : AC array_Array_at_id [ptr la 0, .int .i64 line] g n K := by
  refine ACalls.fold X0_mono ?_
  rw [← array_Array_at_eq]
  simp only [array_Array_at]
  refine ⟨rfl, ?_⟩
  intro hn
  have hs := (Sub.refl g).new hn (some (.cells [.int .i64 line] .exact))
  have hl3 := upd_same g n (some (.cells [.int .i64 line] .exact))
  generalize upd g n (some (.cells [.int .i64 line] .exact)) = g1 at *
  simp only [kBin_p_eql]
  refine kSplit_f rfl (kLd_of hl3 rfl ?_)
  simp only [kBin_lss, kSplit_b, decide_eq_true_eq, decide_eq_false_iff_not]
  refine ⟨fun h => aRet_of hs ?_, fun h => ?_⟩
  · have := hK (n + 1)
    unfold Arr.at at this
    rw [if_pos h] at this
    exact this
  · refine kLd_of hl3 rfl ?_
    refine set_spec hok (hh.mono hs) (by omega) (fun n2 => ?_)
    refine IndexFunc_Slot_spec (fun s => decide (s.state ≠ 0) && decide (s.line = line)) (setV_sl hok (hh.mono hs) (by omega)) (fun g' n' e K hs' hK' => ?_) (by rw [Arr.part_len hok (by omega)]; have := hok.2.2.1; omega) (fun n3 => aRet_of hs ?_)
    · simp only [kCall_f]
      exact at1_spec (hs'.live hl3) hK'
    · have := hK n3
      unfold Arr.at at this
      rw [if_neg h] at this
      exact this

theorem number_spec {A : Arr} {la ls : Nat} (hok : A.ok) (hh : ArrH g la ls A) {K : Cont}
    (hK : ∀ n', K (.int .i64 (A.used + 1)) (upd g la (some (.cells (ArrC A.tick ls) .exact))) n') : AC array_Array_number_id [ptr la 0] g n K := by
  refine ACalls.fold X0_mono ?_
  rw [← array_Array_number_eq]
  simp only [array_Array_number, kNil_p, kPtr_p, Nat.zero_add]
  refine kLd_of hh.obj rfl ?_
  have hu := hok.2.2.2.2
  simp only [kBin_add]
  rw [wrap64_of (by omega) (by omega)]
  refine kSt_of hh.obj rfl (by simp [ArrC]) rfl ?_
  refine kLd_of (upd_same _ _ _) rfl ?_
  exact aRet_of (Sub.refl _) (hK _)
theorem ArrH.tick {A : Arr} {la ls : Nat} (hh : ArrH g la ls A) : ArrH (upd g la (some (.cells (ArrC A.tick ls) .exact))) la ls A.tick :=
  ⟨upd_same _ _ _, by show upd g la _ ls = _; rw [upd_ne _ _ (fun e => hh.ne e.symm)]; exact hh.row, hh.ne⟩
/-- a slot written: as a whole -/
theorem ArrH.stS {A : Arr} {la ls : Nat} {line : Int} {k : Nat} {s : St} {K : G → Prop} (hok : A.ok) (hl : 0 ≤ line) (hh : ArrH g la ls A) (hk : k < A.ways)
    (kk : ∀ g', Sub (hide g la ls) g' → ArrH g' la ls (A.put line k s) → K g') : kStN g ls (A.from line * 11 + k * 11) (encS s) K := by
  have h1 := Arr.from_le hok hl
  have h2 := hok.2.2.2.1
  rw [← Nat.add_mul]
  refine hh.row.stN encS_len encS_cell rfl (by omega) (fun hb => kk _ ?_ ⟨?_, hb, hh.ne⟩)
  · exact (hide_sub g la ls).upd_fresh _ (hide_ls _ _ _)
  · rw [upd_ne _ _ hh.ne]; exact hh.obj
theorem kFill_slot {a b u : Int} {d : Ln} {K : List Value → Prop} (k : K (encS ⟨a, b, d, u⟩)) : kFill (encS zeroS) [(0, none, .int .i64 a), (1, none, .int .i64 b), (2, some 8, .agg (encL d).toArray), (10, none, .int .i64 u)] K := by
  refine ⟨rfl, by rw [encS_len]; decide, rfl, by rw [List.length_set, encS_len]; decide, ?_⟩
  refine ⟨encL_len d, by simp [encS_len], rfl, ?_, ?_⟩
  · simp only [splice, List.length_append, List.length_take, List.length_drop, List.length_set, encS_len, encL_len]; omega
  · have : (splice ((((encS zeroS).set 0 (.int .i64 a)).set 1 (.int .i64 b))) 2 (encL d)).set 10 (.int .i64 u) = encS ⟨a, b, d, u⟩ := by
      have e : splice ((((encS zeroS).set 0 (.int .i64 a)).set 1 (.int .i64 b))) 2 (encL d) = [.int .i64 a, .int .i64 b] ++ encL d ++ [.int .i64 0] := by
        unfold splice
        rw [encL_len]
        rfl
      rw [e, List.set_append, if_neg (by simp [encL_len])]
      simp [encL_len, encS]
    rw [this]; exact k
end Go.Proofs.Ytncodeibkmekmaa.Gen

namespace Go.Proofs.Ytncodeibkmekmaa.Gen
open Go Go.Proofs.Ytncodeibkmekmaa.Abs Go.RowKit
variable {g : G} {n : Nat}
theorem Arr.tick_ok {A : Arr} (h : A.ok) (hu : A.used < 100000) : A.tick.ok := by
  obtain ⟨h1, h2, h3, h4, h5, h6⟩ := h
  exact ⟨h1, h2, h3, h4, by show 0 ≤ A.used + 1; omega, by show A.used + 1 < 1000000; omega⟩

theorem Set_spec {A : Arr} {la ls : Nat} {line state : Int} {d : Ln} (hok : A.ok) (hu : A.used < 100000) (hh : ArrH g la ls A) {K : Cont}
    (hK : ∀ g' n', Sub (hide g la ls) g' → ArrH g' la ls (A.set line state d).2 → K (.int .i64 (A.set line state d).1) g' n') :
    AC array_Array_Set_id [ptr la 0, .int .i64 line, .int .i64 state, .agg (encL d).toArray] g n K := by
  refine ACalls.fold X0_mono ?_
  rw [← array_Array_Set_eq]
  simp only [array_Array_Set, kAgg_a]
  intro hn
  have hs := (Sub.refl g).new hn (some (.cells (encL d) .exact))
  have hl7 := upd_same g n (some (.cells (encL d) .exact))
  have hla := ne_of_live hh.obj hn
  generalize upd g n (some (.cells (encL d) .exact)) = g1 at *
  have hh1 := hh.mono hs
  have err : ∀ m, (line < 0 ∨ state < 1 ∨ 9 < state) → aRet K (.int .i64 1) g1 m := by
    intro m h
    have e : A.set line state d = (1, A) := by unfold Arr.set; rw [if_pos h]
    rw [e] at hK
    exact aRet_of (Sub.refl _) (hK _ _ ((hide_sub g la ls).trans hs) hh1)
  simp only [kBin_p_eql]
  refine kSplit_f rfl ?_
  simp only [kBin_lss, kBin_gtr, kSplit_b, decide_eq_true_eq, decide_eq_false_iff_not]
  refine ⟨fun h => err _ (.inl h), fun h1 => ⟨fun h => err _ (.inr (.inl h)), fun h2 => ⟨fun h => err _ (.inr (.inr h)), fun h3 => ?_⟩⟩⟩
  have hl : 0 ≤ line := by omega
  have hne : ¬ (line < 0 ∨ state < 1 ∨ 9 < state) := by omega
  have j1 : ∀ (t : Env) (m : Nat), t 0 = ptr la 0 → t 1 = .int .i64 line → t 2 = .int .i64 state → t 7 = ptr n 0 → t 9 = idxV ((A.at line).or (A.free line)) → t 10 = setV ls A line → array_Array_Set_j1 AC K t g1 m := by
    intro t m t0 t1 t2 t7 t9 t10
    simp only [array_Array_Set_j1, t0, t1, t2, t7, t9, t10]
    cases ho : (A.at line).or (A.free line) with
    | none =>
      have e : A.set line state d = (13, A) := by unfold Arr.set; rw [if_neg hne, ho]
      rw [e] at hK
      simp only [idxV, kBin_lss]
      exact kSplit_t rfl (aRet_of (Sub.refl _) (hK _ _ ((hide_sub g la ls).trans hs) hh1))
    | some k =>
      have e : A.set line state d = (0, A.tick.put line k ⟨state, line, d, A.used + 1⟩) := by unfold Arr.set; rw [if_neg hne, ho]
      rw [e] at hK
      have hk : k < A.ways := by
        cases ha : A.at line with
        | none => rw [ha] at ho; exact Arr.free_lt hok hl (by simpa using ho)
        | some k' => rw [ha] at ho; simp at ho; subst ho; exact (Arr.at_lt hok ha).2
      simp only [idxV, kBin_lss]
      refine kSplit_f (by simp) ?_
      simp only [kPtr_p]
      refine ldL hl7 ?_
      refine number_spec hok hh1 (fun n2 => ?_)
      refine ⟨upd_ne _ _ hla, kFill_slot ?_⟩
      refine kIndexAddr_s (by omega) (by omega) ?_
      simp only [kPtr_p, kAgg_a, Int.toNat_natCast]
      refine ⟨encS_len _, ArrH.stS (A := A.tick) (line := line) (Arr.tick_ok hok hu) hl hh1.tick hk (fun g' hs' hh' => aRet_of (Sub.refl _) (hK _ _ ?_ hh'))⟩
      rw [hide_upd] at hs'
      exact (hide_mono hs).trans hs'
  refine at_spec hok hh1 (fun n2 => ?_)
  refine set_spec hok hh1 hl (fun n3 => ?_)
  cases ha : A.at line with
  | none =>
    simp only [idxV, kBin_lss]
    refine kSplit_t rfl ?_
    refine IndexFunc_Slot_spec (fun s => decide (s.state = 0)) (setV_sl hok hh1 hl) (fun g' n' e K hs' hK' => ?_) (by rw [Arr.part_len hok hl]; have := hok.2.2.1; omega) (fun n4 => ?_)
    · simp only [kCall_f]
      exact empty_spec hK'
    · exact j1 _ _ rfl rfl rfl rfl (by rw [ha]; rfl) rfl
  | some k =>
    simp only [idxV, kBin_lss]
    refine kSplit_f (by simp) ?_
    exact j1 _ _ rfl rfl rfl rfl (by rw [ha]; rfl) rfl
end Go.Proofs.Ytncodeibkmekmaa.Gen

namespace Go.Proofs.Ytncodeibkmekmaa.Gen
open Go Go.Proofs.Ytncodeibkmekmaa.Abs Go.RowKit
variable {g : G} {n : Nat}
theorem flat_set1 {α : Type} {enc : α → List Value} {z : Nat} (hz : ∀ x, (enc x).length = z) {xs : List α} {i j : Nat} {x y : α} {v : Value} (hi : xs[i]? = some x) (hj : j < z) (hy : enc y = (enc x).set j v) :
    ((xs.map enc).flatten).set (i * z + j) v = ((xs.set i y).map enc).flatten := by
  have hlt : i < xs.length := by rcases Nat.lt_or_ge i xs.length with h | h; exact h; rw [List.getElem?_eq_none h] at hi; cases hi
  have e : xs = xs.take i ++ x :: xs.drop (i + 1) := by
    rw [List.getElem?_eq_getElem hlt] at hi
    cases hi
    rw [← List.drop_eq_getElem_cons hlt, List.take_append_drop]
  have e2 : xs.set i y = xs.take i ++ y :: xs.drop (i + 1) := by rw [List.set_eq_take_append_cons_drop, if_pos hlt]
  have hl : ((xs.take i).map enc).flatten.length = i * z := by rw [flat_len enc z hz, List.length_take]; congr 1; omega
  rw [e2]
  conv => lhs; rw [e]
  simp only [List.map_append, List.map_cons, List.flatten_append, List.flatten_cons]
  rw [List.set_append, if_neg (by omega), hl, show i * z + j - i * z = j by omega, List.set_append, if_pos (by rw [hz]; exact hj), hy]

theorem Touch_spec {A : Arr} {la ls : Nat} {line : Int} (hok : A.ok) (hu : A.used < 100000) (hh : ArrH g la ls A) {K : Cont}
    (hK : ∀ g' n', Sub (hide g la ls) g' → ArrH g' la ls (A.touch line) → K (.tuple #[]) g' n') : AC array_Array_Touch_id [ptr la 0, .int .i64 line] g n K := by
  refine ACalls.fold X0_mono ?_
  rw [← array_Array_Touch_eq]
  simp only [array_Array_Touch]
  refine at_spec hok hh (fun n1 => ?_)
  cases ha : A.at line with
  | none =>
    have e : A.touch line = A := by unfold Arr.touch; rw [ha]
    rw [e] at hK
    simp only [idxV, kBin_geq]
    exact kSplit_f rfl (aRet_of (Sub.refl _) (hK _ _ (hide_sub g la ls) hh))
  | some k =>
    have e : A.touch line = A.tick.put line k { A.slotAt line k with used := A.used + 1 } := by unfold Arr.touch; rw [ha]
    rw [e] at hK
    obtain ⟨hl, hk⟩ := Arr.at_lt hok ha
    have h1 := Arr.from_le hok hl
    have h2 := hok.2.2.2.1
    simp only [idxV, kBin_geq]
    refine kSplit_t (by simp) ?_
    refine set_spec hok hh hl (fun n3 => ?_)
    refine number_spec hok hh (fun n4 => ?_)
    refine kIndexAddr_s (by omega) (by omega) ?_
    simp only [kPtr_p, Int.toNat_natCast]
    have hr := hh.tick.row
    have hlen : ((A.l.map encS).flatten).length = A.l.length * 11 := flat_len encS 11 encS_len _
    refine kSt_of hr rfl ?_ rfl ?_
    · show _ < ((A.l.map encS).flatten).length
      rw [hlen]; omega
    · have hx : A.l[A.from line + k]? = some (A.slotAt line k) := by
        unfold Arr.slotAt
        rw [List.getD_eq_getElem?_getD, List.getElem?_eq_getElem (by omega)]; rfl
      have hy : encS { A.slotAt line k with used := A.used + 1 } = (encS (A.slotAt line k)).set 10 (.int .i64 (A.used + 1)) := by
        unfold encS
        rw [List.set_append, if_neg (by simp [encL_len])]
        simp [encL_len]
      have := flat_set1 (z := 11) encS_len hx (by decide) hy
      rw [Nat.add_mul] at this
      show aRet K _ (upd _ ls (some (.cells (((A.l.map encS).flatten).set (A.from line * 11 + k * 11 + 10) (.int .i64 (A.used + 1))) .exact))) n4
      rw [this]
      refine aRet_of (Sub.refl _) (hK _ _ ?_ ⟨?_, upd_same _ _ _, hh.ne⟩)
      · have := (hide_sub (upd g la (some (.cells (ArrC A.tick ls) .exact))) la ls).upd_fresh (some (.cells ((A.l.set (A.from line + k) { A.slotAt line k with used := A.used + 1 }).map encS).flatten .exact)) (hide_ls _ _ _)
        rw [hide_upd] at this
        exact this
      · rw [upd_ne _ _ hh.ne]; exact hh.tick.obj

theorem Drop_spec {A : Arr} {la ls : Nat} {line : Int} (hok : A.ok) (hh : ArrH g la ls A) {K : Cont}
    (hK : ∀ g' n', Sub (hide g la ls) g' → ArrH g' la ls (A.drop line) → K (.bool (A.at line).isSome) g' n') : AC array_Array_Drop_id [ptr la 0, .int .i64 line] g n K := by
  refine ACalls.fold X0_mono ?_
  rw [← array_Array_Drop_eq]
  simp only [array_Array_Drop]
  refine at_spec hok hh (fun n1 => ?_)
  cases ha : A.at line with
  | none =>
    have e : A.drop line = A := by unfold Arr.drop; rw [ha]
    rw [e, ha] at hK
    simp only [idxV, kBin_geq]
    refine kSplit_f rfl ?_
    simp only [array_Array_Drop_j1]
    show kBin .int .geq (.int .i64 (-1)) (.int .i64 0) _
    simp only [kBin_geq]
    exact aRet_of (Sub.refl _) (hK _ _ (hide_sub g la ls) hh)
  | some k =>
    have e : A.drop line = A.put line k zeroS := by unfold Arr.drop; rw [ha]
    rw [e, ha] at hK
    obtain ⟨hl, hk⟩ := Arr.at_lt hok ha
    have hw := hok.2.2.1
    simp only [idxV, kBin_geq]
    refine kSplit_t (by simp) ?_
    refine set_spec hok hh hl (fun n3 => ?_)
    simp only [kFill_nil]
    refine kIndexAddr_s (by omega) (by omega) ?_
    simp only [kPtr_p, kAgg_a, Int.toNat_natCast]
    refine ⟨rfl, ArrH.stS (s := zeroS) hok hl hh hk (fun g' hs' hh' => ?_)⟩
    simp only [array_Array_Drop_j1]
    show kBin .int .geq (.int .i64 (k : Int)) (.int .i64 0) _
    simp only [kBin_geq]
    refine aRet_of (Sub.refl _) ?_
    have := hK _ n3 hs' hh'
    rw [decide_eq_true (by omega)]
    exact this

theorem Find_spec {A : Arr} {la ls : Nat} {line : Int} (hok : A.ok) (hh : ArrH g la ls A) {K : Cont}
    (hK : ∀ n', K (.tuple #[.agg (encS (A.find line).1).toArray, .bool (A.find line).2]) g n') : AC array_Array_Find_id [ptr la 0, .int .i64 line] g n K := by
  refine ACalls.fold X0_mono ?_
  rw [← array_Array_Find_eq]
  simp only [array_Array_Find]
  intro hn
  have hs := (Sub.refl g).new hn (some (.cells (encS zeroS) .exact))
  have hl4 := upd_same g n (some (.cells (encS zeroS) .exact))
  change AC _ _ (upd g n (some (.cells (encS zeroS) .exact))) _ _
  have hh1 := hh.mono hs
  refine at_spec hok hh1 (fun n1 => ?_)
  cases ha : A.at line with
  | none =>
    have e : A.find line = (zeroS, false) := by unfold Arr.find; rw [ha]
    rw [e] at hK
    simp only [idxV, kBin_lss]
    refine kSplit_t rfl ?_
    simp only [kFill_nil, kAgg_a]
    refine ⟨rfl, kStN_of hl4 rfl (Nat.le_refl 11) (encS_cell zeroS) ?_⟩
    refine ldS (x := zeroS) (upd_same _ _ _) ?_
    exact aRet_of (hs.upd_fresh _ hn) (hK _)
  | some k =>
    have e : A.find line = (A.slotAt line k, true) := by unfold Arr.find; rw [ha]
    rw [e] at hK
    obtain ⟨hl, hk⟩ := Arr.at_lt hok ha
    simp only [idxV, kBin_lss]
    refine kSplit_f (by simp) ?_
    refine set_spec hok hh1 hl (fun n3 => ?_)
    refine (setV_sl hok hh1 hl).idx encS_len (Arr.part_get hok hl hk) (fun l o hat => ?_)
    simp only [kPtr_p]
    refine hat.ldN (encS_len _).symm ?_
    simp only [kAgg_a]
    refine ⟨encS_len _, kStN_of hl4 rfl (by rw [encS_len, encS_len]; decide) (encS_cell _) ?_⟩
    rw [splice_all (by rw [encS_len, encS_len])]
    refine ldS (x := A.slotAt line k) (upd_same _ _ _) ?_
    exact aRet_of (hs.upd_fresh _ hn) (hK _)
end Go.Proofs.Ytncodeibkmekmaa.Gen

namespace Go.Proofs.Ytncodeibkmekmaa.Gen
open Go Go.Proofs.Ytncodeibkmekmaa.Abs Go.RowKit
variable {g : G} {n : Nat}

theorem Room_spec {A : Arr} {la ls : Nat} {line : Int} (hok : A.ok) (hh : ArrH g la ls A) {K : Cont}
    (hK : ∀ n', K (.tuple #[.bool (A.room line).1, .int .i64 (A.room line).2]) g n') : AC array_Array_Room_id [ptr la 0, .int .i64 line] g n K := by
  refine ACalls.fold X0_mono ?_
  rw [← array_Array_Room_eq]
  simp only [array_Array_Room, kBin_p_eql]
  refine kSplit_f rfl ?_
  simp only [kBin_lss, kSplit_b, decide_eq_true_eq, decide_eq_false_iff_not]
  refine ⟨fun h => ?_, fun h => ?_⟩
  · unfold Arr.room at hK
    rw [if_pos h] at hK
    exact aRet_of (Sub.refl _) (hK _)
  have hl : 0 ≤ line := by omega
  have hw := hok.2.2.1
  have hpl := Arr.part_len hok hl
  unfold Arr.room at hK
  rw [if_neg h] at hK
  refine set_spec hok hh hl (fun n1 => ?_)
  unfold setV
  simp only [kLen_s]
  refine lfp_ind (fun m t g' n' => Sub g g' ∧ ∃ (i : Nat) (v last : Int), m = A.ways - i ∧ i ≤ A.ways ∧ t 17 = setV ls A line ∧ t 18 = .int .i64 A.ways ∧ t 19 = .int .i64 i ∧ t 5 = .int .i64 v ∧ t 6 = .int .i64 last ∧
      roomScan ((A.part line).drop i) v last = roomScan (A.part line) (-1) 0) ?_ (m := A.ways) ⟨Sub.refl _, 0, -1, 0, by simp, by simp, rfl, rfl, rfl, rfl, rfl, by simp⟩
  rintro I m t g1 n2 hI ⟨hs1, i, v, last, hm, hi, t17, t18, t19, t5, t6, hsc⟩
  simp only [array_Array_Room_l1, t17, t18, t19, kBin_lss, kSplit_b, decide_eq_true_eq, decide_eq_false_iff_not]
  refine ⟨fun hlt => ?_, fun hge => ?_⟩
  · have hlt : i < A.ways := by omega
    have he : (A.part line)[i]? = some (A.slotAt line i) := Arr.part_get hok hl hlt
    generalize A.slotAt line i = s at he
    rw [drop_get he] at hsc
    refine (setV_sl hok (hh.mono hs1) hl).idx encS_len he (fun l o hat => ?_)
    simp only [kPtr_p]
    refine hat.ldN (encS_len _).symm ?_
    intro hn
    simp only [kAgg_a]
    refine ⟨encS_len _, kStN_of (upd_same _ _ _) rfl (by rw [encS_len]; decide) (encS_cell _) ?_⟩
    rw [splice_all (cs := [.int .i64 0, .int .i64 0, .int .u64 0, .int .u64 0, .int .u64 0, .int .u64 0, .int .u64 0, .int .u64 0, .int .u64 0, .int .u64 0, .int .i64 0]) (by rw [encS_len]; rfl)]
    have hs2 := ((Sub.refl g1).new hn (some (.cells [.int .i64 0, .int .i64 0, .int .u64 0, .int .u64 0, .int .u64 0, .int .u64 0, .int .u64 0, .int .u64 0, .int .u64 0, .int .u64 0, .int .i64 0] .exact))).upd_fresh (some (.cells (encS s) .exact)) hn
    have hl8 := upd_same (upd g1 n2 (some (.cells [.int .i64 0, .int .i64 0, .int .u64 0, .int .u64 0, .int .u64 0, .int .u64 0, .int .u64 0, .int .u64 0, .int .u64 0, .int .u64 0, .int .i64 0] .exact))) n2 (some (.cells (encS s) .exact))
    generalize upd (upd g1 n2 (some (.cells [.int .i64 0, .int .i64 0, .int .u64 0, .int .u64 0, .int .u64 0, .int .u64 0, .int .u64 0, .int .u64 0, .int .u64 0, .int .u64 0, .int .i64 0] .exact))) n2 (some (.cells (encS s) .exact)) = g2 at *
    have hsg := hs1.trans hs2
    have next : ∀ (t : Env) (m : Nat) (v' last' : Int), t 17 = setV ls A line → t 18 = .int .i64 A.ways → t 5 = .int .i64 v' → t 6 = .int .i64 last' → t 19 = .int .i64 ((i + 1 : Nat) : Int) → roomScan ((A.part line).drop (i + 1)) v' last' = roomScan (A.part line) (-1) 0 → I t g2 m := by
      intro t m v' last' t17 t18 t5 t6 t19 h
      exact hI (A.ways - (i + 1)) _ _ _ (by omega) ⟨hsg, i + 1, v', last', rfl, by omega, t17, t18, t19, t5, t6, h⟩
    have j2 : ∀ (t : Env) (m : Nat), s.state ≠ 0 → t 17 = setV ls A line → t 18 = .int .i64 A.ways → t 19 = .int .i64 i → t 5 = .int .i64 v → t 6 = .int .i64 last → t 8 = ptr n2 0 → t 27 = .bool (decide (1 ≤ s.state ∧ s.state ≤ 3)) → array_Array_Room_j2 AC K I t g2 m := by
      intro t m h0 t17 t18 t19 t5 t6 t8 t27
      simp only [array_Array_Room_j2, t27, t5, t6, t8, t19, kPtr_p, kBin_lss, kBin_add, kSplit_b, decide_eq_true_eq, decide_eq_false_iff_not]
      rw [wrapNat (by omega)]
      simp only [roomScan, if_neg h0] at hsc
      have ld1 : ∀ {K' : Value → Prop}, K' (.int .i64 s.line) → kLd g2 n2 (0 + 1) K' := fun k => kLd_of hl8 (encS_1 s) k
      have ld10 : ∀ {K' : Value → Prop}, K' (.int .i64 s.used) → kLd g2 n2 (0 + 10) K' := fun k => kLd_of hl8 (encS_10 s) k
      refine ⟨fun hr => ⟨fun hv => ld1 (ld10 ?_), fun hv => ld10 ?_⟩, fun hr => ?_⟩
      · rw [if_pos ⟨hr.1, hr.2, .inl hv⟩] at hsc
        exact next _ _ _ _ t17 t18 rfl rfl rfl hsc
      · simp only [kBin_lss, kSplit_b, decide_eq_true_eq, decide_eq_false_iff_not]
        refine ⟨fun hu => ld1 (ld10 ?_), fun hu => ?_⟩
        · rw [if_pos ⟨hr.1, hr.2, .inr hu⟩] at hsc
          exact next _ _ _ _ t17 t18 rfl rfl rfl hsc
        · rw [if_neg (by omega)] at hsc
          exact next _ _ _ _ t17 t18 t5 t6 rfl hsc
      · rw [if_neg (by omega)] at hsc
        exact next _ _ _ _ t17 t18 t5 t6 rfl hsc
    refine kLd_of hl8 (encS_0 s) ?_
    simp only [kBin_eql, kSplit_b, decide_eq_true_eq, decide_eq_false_iff_not]
    refine ⟨fun h0 => ?_, fun h0 => ⟨fun h1 => ?_, fun h1 => ⟨fun h2 => ?_, fun h2 => ?_⟩⟩⟩
    · simp only [roomScan, if_pos h0] at hsc
      rw [← hsc] at hK
      exact aRet_of hsg (hK _)
    · exact j2 _ _ h0 t17 t18 t19 t5 t6 rfl (by rw [show decide (1 ≤ s.state ∧ s.state ≤ 3) = true from by rw [decide_eq_true_eq]; omega]; show Value.bool _ = _; rw [decide_eq_true h1])
    · exact j2 _ _ h0 t17 t18 t19 t5 t6 rfl (by rw [show decide (1 ≤ s.state ∧ s.state ≤ 3) = true from by rw [decide_eq_true_eq]; omega]; show Value.bool _ = _; rw [decide_eq_true h2])
    · refine j2 _ _ h0 t17 t18 t19 t5 t6 rfl ?_
      show Value.bool (decide (s.state = 3)) = _
      congr 1
      rw [decide_eq_decide]; omega
  · have : i = A.ways := by omega
    subst this
    rw [List.drop_of_length_le (by omega)] at hsc
    simp only [roomScan] at hsc
    rw [← hsc] at hK
    simp only [array_Array_Room_j3]
    show aRet K (.tuple #[.bool false, t 5]) g1 n2
    rw [t5]
    exact aRet_of hs1 (hK _)
end Go.Proofs.Ytncodeibkmekmaa.Gen

namespace Go.Proofs.Ytncodeibkmekmaa.Gen
open Go Go.Proofs.Ytncodeibkmekmaa.Abs Go.RowKit
variable {g : G} {n : Nat}

@[simp] theorem kBin_s_eql {a : Addr} {m c : Nat} {K : Value → Prop} : kBin .slice .eql (.slice (some a) m c) (.slice none 0 0) K = K (.bool false) := rfl
theorem wakes05_spec {K : Cont} (hK : ∀ n', K (.bool true) g n') : AC bellowslaw05_wakes_id [] g n K :=
  AC_ev (.bool true) 1000 100 (by kernel_rfl) (by kernel_rfl) (by kernel_rfl) hK

theorem Clone_Slot_spec {v : Value} {l o m c : Nat} {xs : List St} (hv : v = .slice (some ⟨l, o, none⟩) m c) (h : Sl encS 11 g v xs) (hlen : xs.length < 1000000) {K : Cont}
    (hK : ∀ v' g' n', Sub g g' → OwnS encS 11 g g' v' xs → K v' g' n') : AC slices_Clone_array_Slot_array_Slot_id [v] g n K := by
  subst hv
  refine ACalls.fold X0_mono ?_
  rw [← slices_Clone_array_Slot_array_Slot_eq]
  simp only [slices_Clone_array_Slot_array_Slot, kBin_s_eql]
  refine kSplit_f rfl ?_
  simp only [kFill_nil]
  intro hn
  have hs := (Sub.refl g).new hn (some (.cells (reps 0 [.int .i64 0, .int .i64 0, .int .u64 0, .int .u64 0, .int .u64 0, .int .u64 0, .int .u64 0, .int .u64 0, .int .u64 0, .int .u64 0, .int .i64 0]) .exact))
  refine OwnS.append (g0 := g) (xs := ([] : List St)) OwnS.empty hs (h.mono hs) encS_cell (by decide) (by simp; omega) (by simp; omega) (fun v' g' n' hs' ho' _ _ => aRet_of (Sub.refl _) (hK _ _ _ hs' ?_))
  simpa using ho'

theorem Slots_spec {A : Arr} {la ls : Nat} (hok : A.ok) (hh : ArrH g la ls A) {K : Cont}
    (hK : ∀ v' g' n', Sub g g' → Sl encS 11 g' v' A.slots → K v' g' n') : AC array_Array_Slots_id [ptr la 0] g n K := by
  refine ACalls.fold X0_mono ?_
  rw [← array_Array_Slots_eq]
  simp only [array_Array_Slots, kBin_p_eql]
  refine kSplit_f rfl ?_
  simp only [kNil_p, kPtr_p, Nat.zero_add]
  refine kLd_of hh.obj rfl ?_
  have hlen : A.l.length < 1000000 := by have := Arr.small hok; have := hok.2.2.2.1; omega
  have hsl : Sl encS 11 g (.slice (some ⟨ls, 0, none⟩) (A.sets * A.ways) (A.sets * A.ways)) A.l := by
    have := hh.row.sl (i := 0) (m := A.sets * A.ways) (c := A.sets * A.ways) encS_len (by rw [hok.2.2.2.1]; omega)
    rw [Nat.zero_mul, List.drop_zero, List.take_of_length_le (by rw [hok.2.2.2.1]; exact Nat.le_refl _)] at this
    exact this
  refine Clone_Slot_spec rfl hsl hlen (fun v1 g1 n1 hs1 ho1 => ?_)
  refine DeleteFunc_Slot_spec (fun s => decide (s.state = 0)) ho1 hs1 (fun g' n' e K hs' hK' => ?_) hlen (fun v2 g2 n2 hs2 h2 => aRet_of (Sub.refl _) (hK _ _ _ hs2 h2))
  simp only [kCall_f]
  exact empty_spec hK'

def arr0 (s w : Nat) : Arr := ⟨s, w, List.replicate (s * w) zeroS, 0⟩
theorem arr0_ok {s w : Nat} (hs : s = 1 ∨ s = 2 ∨ s = 4 ∨ s = 8) (h1 : 1 ≤ w) (h2 : w ≤ 8) : (arr0 s w).ok := ⟨hs, h1, h2, by simp [arr0], by simp [arr0], by simp [arr0]⟩
def goodA (s w : Int) : Prop := (s = 1 ∨ s = 2 ∨ s = 4 ∨ s = 8) ∧ 1 ≤ w ∧ w ≤ 8
theorem New_tail {s w : Nat} (hsm : s * w ≤ 64) {K : Cont} (hK : ∀ la ls g' n', Sub g g' → g la = none → g ls = none → ArrH g' la ls (arr0 s w) → K (.tuple #[ptr la 0, .int .i64 0]) g' n') :
    kMake (.int .i64 ((s * w : Nat) : Int)) (.int .i64 ((s * w : Nat) : Int)) (encS zeroS) 88 g n fun v33 g3 n33 =>
    kFill [(.int .i64 0), (.int .i64 0), (.slice none 0 0), (.int .i64 0)] [(0, none, .int .i64 s), (1, none, .int .i64 w), (2, none, v33)] fun c34 =>
    kAgg (.agg c34.toArray) fun c35 =>
    kNew c35 .exact g3 n33 fun l35 g4 n35 =>
    aRet K (.tuple #[(ptr l35 0), (.int .i64 0)]) g4 n35 := by
  refine ⟨by omega, by omega, by omega, by omega, ?_⟩
  intro hn
  simp only [Int.toNat_natCast]
  refine ⟨rfl, by simp, rfl, by simp, rfl, by simp, ?_⟩
  simp only [kFill_nil, kAgg_a]
  intro hn2
  have hs1 := (Sub.refl g).new hn (some (.cells (reps (s * w) (encS zeroS)) .exact))
  have hne := ne_of_live (upd_same g n (some (.cells (reps (s * w) (encS zeroS)) .exact))) hn2
  refine aRet_of (Sub.refl _) (hK _ _ _ _ (hs1.new hn2 _) (hs1.none hn2) hn ⟨upd_same _ _ _, ?_, hne⟩)
  show upd _ _ _ _ = _
  rw [upd_ne _ _ (fun e => hne e.symm), upd_same, flat_reps]
  rfl
theorem New_body {s w : Int} {K : Cont} (hbad : ¬ goodA s w → ∀ n', K (.tuple #[.pointer none, .int .i64 1]) g n')
    (hK : goodA s w → ∀ la ls g' n', Sub g g' → g la = none → g ls = none → ArrH g' la ls (arr0 s.toNat w.toNat) → K (.tuple #[ptr la 0, .int .i64 0]) g' n') : array_New AC (.int .i64 s) (.int .i64 w) g n K := by
  simp only [array_New, kBin_neq, kBin_lss, kBin_gtr, kBin_mul, kSplit_b, decide_eq_true_eq, decide_eq_false_iff_not]
  have bad : ¬ goodA s w → aRet K (.tuple #[.pointer none, .int .i64 1]) g n := fun h => aRet_of (Sub.refl _) (hbad h _)
  have tail : (s = 1 ∨ s = 2 ∨ s = 4 ∨ s = 8) → ((w < 1 → aRet K (.tuple #[.pointer none, .int .i64 1]) g n) ∧ (¬ w < 1 → (8 < w → aRet K (.tuple #[.pointer none, .int .i64 1]) g n) ∧ (¬ 8 < w →
      kMake (.int .i64 (IntKind.i64.wrap (s * w))) (.int .i64 (IntKind.i64.wrap (s * w))) [(.int .i64 0), (.int .i64 0), (.int .u64 0), (.int .u64 0), (.int .u64 0), (.int .u64 0), (.int .u64 0), (.int .u64 0), (.int .u64 0), (.int .u64 0), (.int .i64 0)] 88 g n fun v33 g3 n33 =>
      kFill [(.int .i64 0), (.int .i64 0), (.slice none 0 0), (.int .i64 0)] [(0, none, .int .i64 s), (1, none, .int .i64 w), (2, none, v33)] fun c34 =>
      kAgg (.agg c34.toArray) fun c35 =>
      kNew c35 .exact g3 n33 fun l35 g4 n35 =>
      aRet K (.tuple #[(ptr l35 0), (.int .i64 0)]) g4 n35))) := by
    intro hs
    refine ⟨fun h => bad (fun hg => by have := hg.2; omega), fun h1 => ⟨fun h => bad (fun hg => by have := hg.2; omega), fun h2 => ?_⟩⟩
    obtain ⟨s', rfl⟩ : ∃ s' : Nat, s = s' := ⟨s.toNat, by omega⟩
    obtain ⟨w', rfl⟩ : ∃ w' : Nat, w = w' := ⟨w.toNat, by omega⟩
    have hsm : s' * w' ≤ 64 := by
      have := Nat.mul_le_mul (show s' ≤ 8 by omega) (show w' ≤ 8 by omega)
      omega
    rw [← Int.natCast_mul, wrap64_of (by omega) (by omega)]
    exact New_tail hsm (fun la ls g' n' a b c d => hK ⟨hs, by omega, by omega⟩ la ls g' n' a b c d)
  refine ⟨fun h1 => ⟨fun h2 => ⟨fun h4 => ⟨fun h8 => bad (fun hg => by have := hg.1; omega), fun h8 => tail (by omega)⟩, fun h4 => tail (by omega)⟩, fun h2 => tail (by omega)⟩, fun h1 => tail (by omega)⟩
theorem New_spec {s w : Int} {K : Cont} (hbad : ¬ goodA s w → ∀ n', K (.tuple #[.pointer none, .int .i64 1]) g n')
    (hK : goodA s w → ∀ la ls g' n', Sub g g' → g la = none → g ls = none → ArrH g' la ls (arr0 s.toNat w.toNat) → K (.tuple #[ptr la 0, .int .i64 0]) g' n') : AC array_New_id [.int .i64 s, .int .i64 w] g n K := by
  refine ACalls.fold X0_mono ?_
  rw [← array_New_eq]
  exact New_body hbad hK
end Go.Proofs.Ytncodeibkmekmaa.Gen

namespace Go.Proofs.Ytncodeibkmekmaa.Gen
open Go Go.Proofs.Ytncodeibkmekmaa.Abs Go.RowKit

/-- what always holds of an array's slots -/
structure Arr.wf (A : Arr) : Prop where
  place : ∀ (i : Nat) (s : St), A.l[i]? = some s → s.state ≠ 0 → 0 ≤ s.line ∧ A.from s.line ≤ i ∧ i < A.from s.line + A.ways ∧ 1 ≤ s.state ∧ s.state ≤ 9
  once : ∀ (i j : Nat) (s t : St), A.l[i]? = some s → A.l[j]? = some t → s.state ≠ 0 → t.state ≠ 0 → (s.line = t.line ∨ s.used = t.used) → i = j
  used : ∀ (i : Nat) (s : St), A.l[i]? = some s → s.state ≠ 0 → 1 ≤ s.used ∧ s.used ≤ A.used

theorem Arr.part_idx {A : Arr} {line : Int} {k : Nat} (hk : k < A.ways) : (A.part line)[k]? = A.l[A.from line + k]? := by
  unfold Arr.part
  rw [List.getElem?_take, if_pos hk, List.getElem?_drop]
/-- where a line stands -/
theorem Arr.at_some {A : Arr} (h : A.ok) {line : Int} {k : Nat} (hk : A.at line = some k) : ∃ s, A.l[A.from line + k]? = some s ∧ s.state ≠ 0 ∧ s.line = line ∧ A.slotAt line k = s := by
  obtain ⟨hl, hlt⟩ := Arr.at_lt h hk
  unfold Arr.at at hk
  rw [if_neg (by omega)] at hk
  obtain ⟨h1, h2, _⟩ := List.findIdx?_eq_some_iff_getElem.1 hk
  have e2 := Arr.part_get h hl hlt
  rw [Arr.part_idx hlt] at e2
  simp only [Bool.and_eq_true, decide_eq_true_eq] at h2
  refine ⟨_, e2, ?_⟩
  have e3 : (A.part line)[k] = A.slotAt line k := by
    have := Arr.part_get h hl hlt
    rw [List.getElem?_eq_getElem h1] at this
    exact Option.some.inj this
  rw [e3] at h2
  exact ⟨h2.1, h2.2, rfl⟩
theorem Arr.at_none {A : Arr} (h : A.ok) (hw : A.wf) {line : Int} (hk : A.at line = none) : ∀ (i : Nat) (s : St), A.l[i]? = some s → s.state ≠ 0 → s.line ≠ line := by
  intro i s hi hs e
  subst e
  obtain ⟨h0, h1, h2, _⟩ := hw.place i s hi hs
  unfold Arr.at at hk
  rw [if_neg (by omega), List.findIdx?_eq_none_iff] at hk
  have hm : s ∈ A.part s.line := by
    have : (A.part s.line)[i - A.from s.line]? = some s := by
      rw [Arr.part_idx (by omega), show A.from s.line + (i - A.from s.line) = i by omega]; exact hi
    exact List.mem_of_getElem? this
  have := hk s hm
  simp [hs] at this
theorem Arr.at_of {A : Arr} (h : A.ok) (hw : A.wf) {i : Nat} {s : St} (hi : A.l[i]? = some s) (hs : s.state ≠ 0) : A.at s.line = some (i - A.from s.line) := by
  cases ha : A.at s.line with
  | none => exact absurd rfl (Arr.at_none h hw ha i s hi hs)
  | some k =>
    obtain ⟨t, ht, ht0, hl, _⟩ := Arr.at_some h ha
    have := hw.once _ _ _ _ ht hi ht0 hs (.inl hl)
    congr 1; omega
theorem Arr.free_some {A : Arr} (h : A.ok) {line : Int} (hl : 0 ≤ line) {k : Nat} (hk : A.free line = some k) : ∃ s, A.l[A.from line + k]? = some s ∧ s.state = 0 := by
  have hlt := Arr.free_lt h hl hk
  obtain ⟨h1, h2, _⟩ := List.findIdx?_eq_some_iff_getElem.1 hk
  refine ⟨(A.part line)[k], ?_, by simpa using h2⟩
  rw [← Arr.part_idx hlt, List.getElem?_eq_getElem h1]
theorem Arr.free_none {A : Arr} {line : Int} (hk : A.free line = none) : ∀ (k : Nat) (s : St), k < A.ways → A.l[A.from line + k]? = some s → s.state ≠ 0 := by
  intro k s hlt hi
  unfold Arr.free at hk
  rw [List.findIdx?_eq_none_iff] at hk
  have := hk s (List.mem_of_getElem? (by rw [Arr.part_idx hlt]; exact hi))
  simpa using this
theorem Arr.part_mem {A : Arr} {line : Int} {s : St} (hm : s ∈ A.part line) : ∃ i, A.l[i]? = some s ∧ A.from line ≤ i ∧ i < A.from line + A.ways := by
  obtain ⟨j, hj⟩ := List.getElem?_of_mem hm
  unfold Arr.part at hj
  rw [List.getElem?_take] at hj
  split at hj
  · rename_i hlt
    rw [List.getElem?_drop] at hj
    exact ⟨_, hj, by omega, by omega⟩
  · cases hj
theorem Arr.slotAt_get {A : Arr} (h : A.ok) {line : Int} (hl : 0 ≤ line) {k : Nat} (hk : k < A.ways) : A.l[A.from line + k]? = some (A.slotAt line k) := by
  rw [← Arr.part_idx hk]; exact Arr.part_get h hl hk
/-- a slot is written with a new number: of a line of this set that stands here, or nowhere -/
theorem Arr.put_wf {A : Arr} (h : A.ok) (hw : A.wf) {line : Int} (hl : 0 ≤ line) {k : Nat} (hk : k < A.ways) {s : St} (hs : s.line = line) (hu : s.used = A.used + 1) (h1 : 1 ≤ s.state) (h9 : s.state ≤ 9)
    (hat : ∀ (i : Nat) (t : St), A.l[i]? = some t → t.state ≠ 0 → t.line = line → i = A.from line + k) : (A.tick.put line k s).wf := by
  have hf := Arr.from_le h hl
  have hu0 := h.2.2.2.2.1
  have key : ∀ (i : Nat) (t : St), (A.tick.put line k s).l[i]? = some t → (i = A.from line + k ∧ t = s) ∨ (i ≠ A.from line + k ∧ A.l[i]? = some t) := by
    intro i t hi
    have hi : (A.l.set (A.from line + k) s)[i]? = some t := hi
    rw [List.getElem?_set] at hi
    split at hi
    · rename_i e
      split at hi
      · cases hi; exact .inl ⟨e.symm, rfl⟩
      · cases hi
    · rename_i e; exact .inr ⟨fun x => e x.symm, hi⟩
  refine ⟨?_, ?_, ?_⟩
  · intro i t hi ht
    rcases key i t hi with ⟨rfl, rfl⟩ | ⟨_, hi⟩
    · rw [hs]
      exact ⟨hl, by show A.from line ≤ _; omega, by show _ < A.from line + A.ways; omega, h1, h9⟩
    · exact hw.place i t hi ht
  · intro i j t t' hi hj ht ht' e
    rcases key i t hi with ⟨e1, e2⟩ | ⟨ni, hi2⟩ <;> rcases key j t' hj with ⟨e3, e4⟩ | ⟨nj, hj2⟩
    · rw [e1, e3]
    · rw [e2] at e
      rcases e with e | e
      · rw [e1]; exact (hat j t' hj2 ht' (by rw [← e, hs])).symm
      · have := hw.used j t' hj2 ht'; omega
    · rw [e4] at e
      rcases e with e | e
      · rw [e3]; exact hat i t hi2 ht (by rw [e, hs])
      · have := hw.used i t hi2 ht; omega
    · exact hw.once i j t t' hi2 hj2 ht ht' e
  · intro i t hi ht
    rcases key i t hi with ⟨rfl, rfl⟩ | ⟨_, hi⟩
    · exact ⟨by omega, by show t.used ≤ A.used + 1; omega⟩
    · have := hw.used i t hi ht
      exact ⟨this.1, by show t.used ≤ A.used + 1; omega⟩
theorem Arr.set_wf {A : Arr} (h : A.ok) (hw : A.wf) (line state : Int) (d : Ln) : (A.set line state d).2.wf := by
  unfold Arr.set
  split
  · exact hw
  · rename_i hc
    have hl : 0 ≤ line := by omega
    cases ha : A.at line with
    | some k =>
      obtain ⟨t, ht, ht0, htl, _⟩ := Arr.at_some h ha
      obtain ⟨_, hk⟩ := Arr.at_lt h ha
      simp only [Option.some_or]
      exact Arr.put_wf h hw hl hk rfl rfl (by show 1 ≤ state; omega) (by show state ≤ 9; omega) (fun i t' hi ht' e => hw.once _ _ _ _ hi ht ht' ht0 (.inl (by rw [e, htl])))
    | none =>
      simp only [Option.none_or]
      cases hf : A.free line with
      | none => exact hw
      | some k =>
        exact Arr.put_wf h hw hl (Arr.free_lt h hl hf) rfl rfl (by show 1 ≤ state; omega) (by show state ≤ 9; omega) (fun i t' hi ht' e => absurd e (Arr.at_none h hw ha i t' hi ht'))
theorem Arr.touch_wf {A : Arr} (h : A.ok) (hw : A.wf) (line : Int) : (A.touch line).wf := by
  unfold Arr.touch
  cases ha : A.at line with
  | none => exact hw
  | some k =>
    obtain ⟨t, ht, ht0, htl, hst⟩ := Arr.at_some h ha
    obtain ⟨hl, hk⟩ := Arr.at_lt h ha
    have hp := hw.place _ _ ht ht0
    refine Arr.put_wf h hw hl hk ?_ rfl ?_ ?_ (fun i t' hi ht' e => hw.once _ _ _ _ hi ht ht' ht0 (.inl (by rw [e, htl])))
    · show (A.slotAt line k).line = line; rw [hst]; exact htl
    · show 1 ≤ (A.slotAt line k).state; rw [hst]; exact hp.2.2.2.1
    · show (A.slotAt line k).state ≤ 9; rw [hst]; exact hp.2.2.2.2
theorem Arr.drop_wf {A : Arr} (hw : A.wf) (line : Int) : (A.drop line).wf := by
  unfold Arr.drop
  cases ha : A.at line with
  | none => exact hw
  | some k =>
    have key : ∀ (i : Nat) (t : St), (A.put line k zeroS).l[i]? = some t → t.state ≠ 0 → A.l[i]? = some t := by
      intro i t hi ht
      have hi : (A.l.set (A.from line + k) zeroS)[i]? = some t := hi
      rw [List.getElem?_set] at hi
      split at hi
      · split at hi
        · cases hi; exact absurd rfl ht
        · cases hi
      · exact hi
    exact ⟨fun i t hi ht => hw.place i t (key i t hi ht) ht, fun i j t t' hi hj ht ht' e => hw.once i j t t' (key i t hi ht) (key j t' hj ht') ht ht' e, fun i t hi ht => hw.used i t (key i t hi ht) ht⟩
theorem arr0_wf (s w : Nat) : (arr0 s w).wf := by
  have key : ∀ (i : Nat) (t : St), (arr0 s w).l[i]? = some t → t.state = 0 := by
    intro i t hi
    have := List.mem_of_getElem? hi
    have := (List.mem_replicate.1 this).2
    subst this; rfl
  exact ⟨fun i t hi ht => absurd (key i t hi) ht, fun i j t t' hi hj ht ht' e => absurd (key i t hi) ht, fun i t hi ht => absurd (key i t hi) ht⟩
theorem Arr.set_ok {A : Arr} (h : A.ok) (hu : A.used < 100000) (line state : Int) (d : Ln) : (A.set line state d).2.ok := by
  unfold Arr.set
  split
  · exact h
  · split
    · exact h
    · exact Arr.put_ok (Arr.tick_ok h hu) _ _ _
theorem Arr.touch_ok {A : Arr} (h : A.ok) (hu : A.used < 100000) (line : Int) : (A.touch line).ok := by
  unfold Arr.touch
  split
  · exact h
  · exact Arr.put_ok (Arr.tick_ok h hu) _ _ _
theorem Arr.drop_ok {A : Arr} (h : A.ok) (line : Int) : (A.drop line).ok := by
  unfold Arr.drop
  split
  · exact h
  · exact Arr.put_ok h _ _ _
theorem Arr.set_used (A : Arr) (line state : Int) (d : Ln) : A.used ≤ (A.set line state d).2.used ∧ (A.set line state d).2.used ≤ A.used + 1 := by
  unfold Arr.set
  split
  · exact ⟨Int.le_refl _, by show A.used ≤ A.used + 1; omega⟩
  · split
    · exact ⟨Int.le_refl _, by show A.used ≤ A.used + 1; omega⟩
    · exact ⟨by show A.used ≤ A.used + 1; omega, by show A.used + 1 ≤ A.used + 1; omega⟩
theorem Arr.touch_used (A : Arr) (line : Int) : A.used ≤ (A.touch line).used ∧ (A.touch line).used ≤ A.used + 1 := by
  unfold Arr.touch
  split
  · exact ⟨Int.le_refl _, by omega⟩
  · exact ⟨by show A.used ≤ A.used + 1; omega, by show A.used + 1 ≤ A.used + 1; omega⟩
theorem Arr.drop_used (A : Arr) (line : Int) : (A.drop line).used = A.used := by
  unfold Arr.drop
  split <;> rfl

/-! who is put out -/
def St.rest (s : St) : Prop := 1 ≤ s.state ∧ s.state ≤ 3
theorem roomScan_free : ∀ (l : List St) (v last : Int), (∃ s ∈ l, s.state = 0) → roomScan l v last = (true, -1)
  | [], _, _, h => by obtain ⟨_, h, _⟩ := h; cases h
  | s :: l, v, last, h => by
    unfold roomScan
    by_cases h0 : s.state = 0
    · rw [if_pos h0]
    · rw [if_neg h0]
      have : ∃ t ∈ l, t.state = 0 := by
        obtain ⟨t, ht, e⟩ := h
        rcases List.mem_cons.1 ht with rfl | ht
        · exact absurd e h0
        · exact ⟨t, ht, e⟩
      split <;> exact roomScan_free l _ _ this
/-- nobody is empty: who was used longest ago of those at rest, -1 if there is none -/
theorem roomScan_full : ∀ (l : List St) (v last : Int), (∀ s ∈ l, s.state ≠ 0) → (∀ s ∈ l, s.rest → 0 ≤ s.line) → (v = -1 ∨ 0 ≤ v) →
    ∃ v', roomScan l v last = (false, v') ∧ ((v' = -1 ∧ v = -1 ∧ ∀ s ∈ l, ¬ s.rest) ∨
      ∃ u, ((v' = v ∧ u = last ∧ 0 ≤ v) ∨ ∃ s ∈ l, s.rest ∧ s.line = v' ∧ s.used = u) ∧ (0 ≤ v → u ≤ last) ∧ ∀ s ∈ l, s.rest → u ≤ s.used)
  | [], v, last, _, _, hv => by
    refine ⟨v, rfl, ?_⟩
    rcases hv with rfl | hv
    · exact .inl ⟨rfl, rfl, by simp⟩
    · exact .inr ⟨last, .inl ⟨rfl, rfl, hv⟩, fun _ => Int.le_refl _, by simp⟩
  | s :: l, v, last, h0, hl, hv => by
    unfold roomScan
    rw [if_neg (h0 s (by simp))]
    have h0' : ∀ s ∈ l, s.state ≠ 0 := fun t ht => h0 t (by simp [ht])
    have hl' : ∀ s ∈ l, s.rest → 0 ≤ s.line := fun t ht => hl t (by simp [ht])
    by_cases hr : s.rest
    · have hls := hl s (by simp) hr
      by_cases hc : v < 0 ∨ s.used < last
      · rw [if_pos ⟨hr.1, hr.2, hc⟩]
        obtain ⟨v', e, hh⟩ := roomScan_full l s.line s.used h0' hl' (.inr hls)
        refine ⟨v', e, .inr ?_⟩
        rcases hh with ⟨_, h, _⟩ | ⟨u, h1, h2, h3⟩
        · omega
        · have h2 := h2 hls
          refine ⟨u, .inr ?_, fun _ => by omega, ?_⟩
          · rcases h1 with ⟨rfl, rfl, _⟩ | ⟨t, ht, h1⟩
            · exact ⟨s, by simp, hr, rfl, rfl⟩
            · exact ⟨t, by simp [ht], h1⟩
          · intro t ht
            rcases List.mem_cons.1 ht with rfl | ht
            · exact fun _ => h2
            · exact h3 t ht
      · rw [if_neg (fun h => hc h.2.2)]
        obtain ⟨v', e, hh⟩ := roomScan_full l v last h0' hl' hv
        refine ⟨v', e, .inr ?_⟩
        rcases hh with ⟨_, h, _⟩ | ⟨u, h1, h2, h3⟩
        · omega
        · have h2' := h2 (by omega)
          refine ⟨u, ?_, h2, ?_⟩
          · rcases h1 with h1 | ⟨t, ht, h1⟩
            · exact .inl h1
            · exact .inr ⟨t, by simp [ht], h1⟩
          · intro t ht
            rcases List.mem_cons.1 ht with rfl | ht
            · intro _; omega
            · exact h3 t ht
    · rw [if_neg (fun h => hr ⟨h.1, h.2.1⟩)]
      obtain ⟨v', e, hh⟩ := roomScan_full l v last h0' hl' hv
      refine ⟨v', e, ?_⟩
      rcases hh with ⟨h1, h2, h3⟩ | ⟨u, h1, h2, h3⟩
      · refine .inl ⟨h1, h2, fun t ht => ?_⟩
        rcases List.mem_cons.1 ht with rfl | ht
        · exact hr
        · exact h3 t ht
      · refine .inr ⟨u, ?_, h2, fun t ht => ?_⟩
        · rcases h1 with h1 | ⟨t, ht, h1⟩
          · exact .inl h1
          · exact .inr ⟨t, by simp [ht], h1⟩
        · rcases List.mem_cons.1 ht with rfl | ht
          · exact fun h => absurd h hr
          · exact h3 t ht
end Go.Proofs.Ytncodeibkmekmaa.Gen

namespace Go.Proofs.Ytncodeibkmekmaa.Gen
open Go Go.Proofs.Ytncodeibkmekmaa.Abs Go.RowKit
variable {g : G} {n : Nat}

/-- a line stands, in this slot -/
def Has (A : Arr) (m : Int) (s : St) : Prop := ∃ i : Nat, A.l[i]? = some s ∧ s.state ≠ 0 ∧ s.line = m
theorem Has.put {A : Arr} {m line : Int} {k : Nat} {s t : St} (h : Has A m s) (hk : ∀ u, A.l[A.from line + k]? = some u → u.state = 0 ∨ u.line ≠ m) : Has (A.put line k t) m s := by
  obtain ⟨i, hi, h0, hm⟩ := h
  refine ⟨i, ?_, h0, hm⟩
  show (A.l.set (A.from line + k) t)[i]? = some s
  rw [List.getElem?_set_ne]; exact hi
  intro e
  subst e
  rcases hk s hi with e | e
  · exact h0 e
  · exact e hm
theorem Has.set {A : Arr} (hok : A.ok) {m line state : Int} {d : Ln} {s : St} (h : Has A m s) (hne : m ≠ line) : Has (A.set line state d).2 m s := by
  unfold Arr.set
  split
  · exact h
  · rename_i hc
    have hl : 0 ≤ line := by omega
    cases ha : A.at line with
    | some k =>
      obtain ⟨t, ht, ht0, htl, _⟩ := Arr.at_some hok ha
      simp only [Option.some_or]
      refine Has.put (A := A.tick) h (fun u hu => .inr ?_)
      have : A.l[A.from line + k]? = some u := hu
      rw [ht] at this; cases this
      rw [htl]; exact fun e => hne e.symm
    | none =>
      simp only [Option.none_or]
      cases hf : A.free line with
      | none => exact h
      | some k =>
        obtain ⟨t, ht, ht0⟩ := Arr.free_some hok hl hf
        refine Has.put (A := A.tick) h (fun u hu => .inl ?_)
        have : A.l[A.from line + k]? = some u := hu
        rw [ht] at this; cases this
        exact ht0
theorem Has.drop {A : Arr} (hok : A.ok) {m line : Int} {s : St} (h : Has A m s) (hne : m ≠ line) : Has (A.drop line) m s := by
  unfold Arr.drop
  cases ha : A.at line with
  | none => exact h
  | some k =>
    obtain ⟨t, ht, ht0, htl, _⟩ := Arr.at_some hok ha
    refine Has.put h (fun u hu => .inr ?_)
    rw [ht] at hu; cases hu
    rw [htl]; exact fun e => hne e.symm
theorem Has.find {A : Arr} (hok : A.ok) (hw : A.wf) {m : Int} {s : St} (h : Has A m s) : A.find m = (s, true) ∧ (A.at m).isSome = true := by
  obtain ⟨i, hi, h0, rfl⟩ := h
  have ha := Arr.at_of hok hw hi h0
  obtain ⟨t, ht, ht0, htl, hst⟩ := Arr.at_some hok ha
  have := hw.once _ _ _ _ ht hi ht0 h0 (.inl htl)
  rw [this] at ht
  rw [ht] at hi; cases hi
  unfold Arr.find
  rw [ha]
  exact ⟨by show (A.slotAt _ _, true) = _; rw [hst], rfl⟩
/-- all slots' states are at most Mod -/
def Low (A : Arr) : Prop := ∀ s ∈ A.l, s.state ≤ 3
theorem Low.put {A : Arr} {line : Int} {k : Nat} {t : St} (h : Low A) (ht : t.state ≤ 3) : Low (A.put line k t) := by
  intro s hs
  rcases List.mem_or_eq_of_mem_set (show s ∈ A.l.set (A.from line + k) t from hs) with hs | rfl
  · exact h s hs
  · exact ht
theorem Low.set {A : Arr} {line state : Int} {d : Ln} (h : Low A) (hs : state ≤ 3) : Low (A.set line state d).2 := by
  unfold Arr.set
  split
  · exact h
  · split
    · exact h
    · exact Low.put (A := A.tick) h hs
theorem Low.drop {A : Arr} {line : Int} (h : Low A) : Low (A.drop line) := by
  unfold Arr.drop
  split
  · exact h
  · exact Low.put h (by decide)
theorem Arr.set_sets (A : Arr) (line state : Int) (d : Ln) : (A.set line state d).2.sets = A.sets ∧ (A.set line state d).2.ways = A.ways := by
  unfold Arr.set
  split
  · exact ⟨rfl, rfl⟩
  · split <;> exact ⟨rfl, rfl⟩
theorem Arr.drop_sets (A : Arr) (line : Int) : (A.drop line).sets = A.sets ∧ (A.drop line).ways = A.ways := by
  unfold Arr.drop
  split <;> exact ⟨rfl, rfl⟩
theorem Arr.touch_sets (A : Arr) (line : Int) : (A.touch line).sets = A.sets ∧ (A.touch line).ways = A.ways := by
  unfold Arr.touch
  split <;> exact ⟨rfl, rfl⟩
/-- no slot is empty, all are low: somebody may go, who stands in this set -/
theorem room_low {A : Arr} (hok : A.ok) (hw : A.wf) (hlow : Low A) {line : Int} (hl : 0 ≤ line) (hf : A.free line = none) :
    ∃ s, A.room line = (false, s.line) ∧ 0 ≤ s.line ∧ s.line % A.sets = line % A.sets ∧ Has A s.line s := by
  have hne : ∀ s ∈ A.part line, s.state ≠ 0 := by
    intro s hs
    obtain ⟨i, hi, h1, h2⟩ := Arr.part_mem hs
    exact Arr.free_none hf (i - A.from line) s (by omega) (by rw [show A.from line + (i - A.from line) = i by omega]; exact hi)
  have hpl := Arr.part_len hok hl
  have hrest : ∀ s ∈ A.part line, s.rest := by
    intro s hs
    obtain ⟨i, hi, h1, h2⟩ := Arr.part_mem hs
    exact ⟨(hw.place i s hi (hne s hs)).2.2.2.1, hlow s (List.mem_of_getElem? hi)⟩
  have hline : ∀ s ∈ A.part line, s.rest → 0 ≤ s.line := by
    intro s hs _
    obtain ⟨i, hi, h1, h2⟩ := Arr.part_mem hs
    exact (hw.place i s hi (hne s hs)).1
  obtain ⟨v', e, hh⟩ := roomScan_full (A.part line) (-1) 0 hne hline (.inl rfl)
  have h1 := hok.2.1
  rcases hh with ⟨_, _, h⟩ | ⟨u, h, _, _⟩
  · exfalso
    have hlt : 0 < (A.part line).length := by omega
    exact h _ (List.getElem_mem hlt) (hrest _ (List.getElem_mem hlt))
  · rcases h with ⟨_, _, h⟩ | ⟨s, hs, hr, rfl, rfl⟩
    · omega
    · obtain ⟨i, hi, h2, h3⟩ := Arr.part_mem hs
      have hp := hw.place i s hi (hne s hs)
      refine ⟨s, ?_, hp.1, ?_, i, hi, hne s hs, rfl⟩
      · unfold Arr.room
        rw [if_neg (by omega), e]
      · have a1 := hp.2.1
        have a2 := hp.2.2.1
        have b1 : 0 ≤ line % (A.sets : Int) := Int.emod_nonneg _ (by have := hok.1; omega)
        have b2 : 0 ≤ s.line % (A.sets : Int) := Int.emod_nonneg _ (by have := hok.1; omega)
        unfold Arr.from at a1 a2 h2 h3
        have key : (s.line % (A.sets : Int)).toNat = (line % (A.sets : Int)).toNat := by
          generalize (s.line % (A.sets : Int)).toNat = x at *
          generalize (line % (A.sets : Int)).toNat = y at *
          generalize A.ways = w at *
          rcases Nat.lt_trichotomy x y with h | h | h
          · have := Nat.mul_le_mul_right w (show x + 1 ≤ y from h)
            rw [Nat.add_mul] at this; omega
          · exact h
          · have := Nat.mul_le_mul_right w (show y + 1 ≤ x from h)
            rw [Nat.add_mul] at this; omega
        omega
end Go.Proofs.Ytncodeibkmekmaa.Gen

namespace Go.Proofs.Ytncodeibkmekmaa.Gen
open Go Go.Proofs.Ytncodeibkmekmaa.Abs Go.RowKit
variable {g : G} {n : Nat}
theorem encS_data (s : St) : ((encS s).drop 2).take 8 = encL s.data := by
  show ((encL s.data ++ [Value.int .i64 s.used]).take 8) = _
  rw [List.take_left' (encL_len _)]

theorem ArrayKeeps_spec {a1 : Value} {d : Ln} {xs : List Int} (h1 : Sl encB 1 g a1 xs) (hx : ∀ x ∈ xs, 0 ≤ x ∧ x ≤ 255) {K : Cont} (hK : ∀ n', K (.bool true) g n') :
    AC bellowslaw05_ArrayKeeps_id [.agg (encL d).toArray, a1] g n K := by
  refine ACalls.fold X0_mono ?_
  rw [← bellowslaw05_ArrayKeeps_eq]
  simp only [bellowslaw05_ArrayKeeps, kAgg_a]
  intro hn
  have hs1 := (Sub.refl g).new hn (some (.cells (encL d) .exact))
  have hl2 := upd_same g n (some (.cells (encL d) .exact))
  generalize upd g n (some (.cells (encL d) .exact)) = g1 at *
  refine New_spec (fun h => absurd (show goodA 4 2 by unfold goodA; omega) h) (fun _ la ls g2 n2 hs2 hla hls hh0 => ?_)
  have hgs := hs1.trans hs2
  simp only [kExtract_t, kGet_zero, kGet_succ, kBin_neq, kBin_p_eql]
  refine kSplit_f (by simp) (kSplit_f rfl ?_)
  refine (h1.mono hgs).len ?_
  simp only [kBin_gtr, kSplit_b, decide_eq_true_eq, decide_eq_false_iff_not]
  refine ⟨fun _ => ?_, fun hlen => ?_⟩
  · simp only [kBin_eql, kBin_p_neq]
    refine kSplit_t (by simp) (kSplit_t rfl ?_)
    exact wakes05_spec fun n' => aRet_of hgs (hK _)
  have hlen : xs.length ≤ 100 := by omega
  refine ldL (hs2.live hl2) ?_
  have hok0 : (arr0 4 2).ok := arr0_ok (by omega) (by omega) (by omega)
  refine Set_spec hok0 (by decide) hh0 (fun g3 n3 hs3 hh1 => ?_)
  have e0 : (arr0 4 2).set 5 3 d = (0, (arr0 4 2).tick.put 5 0 ⟨3, 5, d, 1⟩) := rfl
  rw [e0] at hh1
  rw [e0]
  simp only [kBin_neq]
  refine kSplit_f (by simp) ?_
  have hb3 : Sub g1 g3 := (hs2.hide hla hls).trans hs3
  have hok1 := Arr.set_ok hok0 (by decide) 5 3 d
  have hwf1 := Arr.set_wf hok0 (arr0_wf 4 2) 5 3 d
  rw [e0] at hok1 hwf1
  have hlow1 : Low ((arr0 4 2).tick.put 5 0 ⟨3, 5, d, 1⟩) := Low.put (A := (arr0 4 2).tick) (fun s hs => by rw [(List.mem_replicate.1 hs).2]; decide) (by show (3 : Int) ≤ 3; decide)
  have hhas1 : Has ((arr0 4 2).tick.put 5 0 ⟨3, 5, d, 1⟩) 5 ⟨3, 5, d, 1⟩ := ⟨2, rfl, by show (3 : Int) ≠ 0; decide, rfl⟩
  have hse1 : ((arr0 4 2).tick.put 5 0 ⟨3, 5, d, 1⟩).sets = 4 := rfl
  have hu1 : ((arr0 4 2).tick.put 5 0 ⟨3, 5, d, 1⟩).used ≤ 1 := by show (1 : Int) ≤ 1; decide
  generalize (arr0 4 2).tick.put 5 0 ⟨3, 5, d, 1⟩ = A1 at *
  refine lfp_ind (fun m t g' n' => Sub g1 g' ∧ ∃ (i : Nat) (A : Arr), m = xs.length - i ∧ i ≤ xs.length ∧ t 1 = a1 ∧ t 2 = ptr n 0 ∧ t 5 = ptr la 0 ∧ t 7 = .int .i64 i ∧
      ArrH g' la ls A ∧ A.ok ∧ A.wf ∧ Low A ∧ Has A 5 ⟨3, 5, d, 1⟩ ∧ A.sets = 4 ∧ A.used ≤ 1 + i) ?_ (m := xs.length) ⟨hb3, 0, A1, by simp, by simp, rfl, rfl, rfl, rfl, hh1, hok1, hwf1, hlow1, hhas1, hse1, by simpa using hu1⟩
  rintro I m t g4 n4 hI ⟨hs4, i, A, hm, hi, t1, t2, t5, t7, hh, hok, hwf, hlow, hhas, hse, hu⟩
  simp only [bellowslaw05_ArrayKeeps_l1, t1, t5, t7]
  have hla1 : g1 la = none := hla
  refine (h1.mono (hs1.trans hs4)).len ?_
  simp only [kBin_lss, kSplit_b, decide_eq_true_eq, decide_eq_false_iff_not]
  refine ⟨fun hlt => ?_, fun hge => ?_⟩
  · have hlt : i < xs.length := by omega
    have he : xs[i]? = some xs[i] := List.getElem?_eq_getElem hlt
    generalize xs[i] = x at he
    have hxr := hx x (List.mem_of_getElem? he)
    refine (h1.mono (hs1.trans hs4)).idx encB_len he (fun l o ha => ?_)
    simp only [kPtr_p]
    refine ha.ld (i := 0) rfl ?_
    simp only [kConv_i, kBin_rem]
    refine ⟨by decide, by decide, ?_⟩
    rw [wrap64_of (a := x) (by omega) (by omega), Int.tmod_eq_emod_of_nonneg hxr.1]
    have hy : 0 ≤ x % 40 := by omega
    generalize x % 40 = y at *
    rw [Int.tmod_eq_emod_of_nonneg hy]
    have j2 : ∀ (t : Env) (g5 : G) (n5 : Nat) (A' : Arr), Sub g1 g5 → t 1 = a1 → t 2 = ptr n 0 → t 5 = ptr la 0 → t 7 = .int .i64 i → ArrH g5 la ls A' → A'.ok → A'.wf → Low A' → Has A' 5 ⟨3, 5, d, 1⟩ → A'.sets = 4 → A'.used ≤ 1 + i + 1 → bellowslaw05_ArrayKeeps_j2 AC K I t g5 n5 := by
      intro t g5 n5 A' hs5 t1 t2 t5 t7 p1 p2 p3 p4 p5 p6 p7
      simp only [bellowslaw05_ArrayKeeps_j2, t7, kBin_add]
      rw [wrapNat (by omega)]
      exact hI (xs.length - (i + 1)) _ _ _ (by omega) ⟨hs5, i + 1, A', rfl, by omega, t1, t2, t5, rfl, p1, p2, p3, p4, p5, p6, by omega⟩
    simp only [kBin_eql, kSplit_b, decide_eq_true_eq, decide_eq_false_iff_not]
    refine ⟨fun _ => j2 _ _ _ A hs4 t1 t2 t5 t7 hh hok hwf hlow hhas hse (by omega), fun hy1 => ?_⟩
    simp only [kFill_nil]
    refine Set_spec (d := zeroL) hok (by omega) hh (fun g5 n5 hs5 hh5 => ?_)
    have hb5 : Sub g1 g5 := (hs4.hide hla hls).trans hs5
    have hok5 := Arr.set_ok hok (by omega) y 1 zeroL
    have hwf5 := Arr.set_wf hok hwf y 1 zeroL
    have hlow5 : Low (A.set y 1 zeroL).2 := Low.set hlow (by decide)
    have hhas5 : Has (A.set y 1 zeroL).2 5 ⟨3, 5, d, 1⟩ := Has.set hok hhas (by omega)
    have hse5 := (Arr.set_sets A y 1 zeroL).1
    have hu5 := (Arr.set_used A y 1 zeroL).2
    simp only [kBin_eql, kSplit_b, decide_eq_true_eq, decide_eq_false_iff_not]
    refine ⟨fun h13 => ?_, fun _ => j2 _ _ _ _ hb5 t1 t2 t5 t7 hh5 hok5 hwf5 hlow5 hhas5 (by omega) (by omega)⟩
    have hfree : A.free y = none ∧ (A.set y 1 zeroL).2 = A := by
      unfold Arr.set at h13 ⊢
      rw [if_neg (by omega)] at h13 ⊢
      cases ho : (A.at y).or (A.free y) with
      | none =>
        cases ha : A.at y with
        | none => rw [ha] at ho; exact ⟨by simpa using ho, rfl⟩
        | some k => rw [ha] at ho; simp at ho
      | some k => rw [ho] at h13; cases h13
    rw [hfree.2] at hh5
    obtain ⟨s, hroom, hs0, hsm, hhs⟩ := room_low hok hwf hlow hy hfree.1
    refine Room_spec hok hh5 (fun n6 => ?_)
    rw [hroom]
    simp only [kExtract_t, kGet_zero, kGet_succ, kBin_lss]
    refine kSplit_f (by simpa using hs0) ?_
    simp only [kBin_rem, kBin_neq]
    refine ⟨by decide, by decide, ?_⟩
    rw [Int.tmod_eq_emod_of_nonneg hs0]
    have hsm4 : s.line % 4 = y % 4 := by rw [hse] at hsm; exact hsm
    refine kSplit_f (by simp [hsm4]) ?_
    refine Drop_spec hok hh5 (fun g6 n7 hs6 hh6 => ?_)
    rw [(hhs.find hok hwf).2]
    simp only [kUn_not]
    refine kSplit_f rfl ?_
    exact j2 _ _ _ _ ((hb5.hide hla hls).trans hs6) t1 t2 t5 t7 hh6 (Arr.drop_ok hok _) (Arr.drop_wf hwf _) hlow.drop (hhas.drop hok (by omega)) (by rw [(Arr.drop_sets A _).1]; exact hse) (by rw [Arr.drop_used]; omega)
  · simp only [bellowslaw05_ArrayKeeps_j3]
    show AC _ [t 5, _] _ _ _
    rw [t5]
    refine Find_spec hok hh (fun n5 => ?_)
    rw [(hhas.find hok hwf).1]
    simp only [kExtract_t, kGet_zero, kGet_succ]
    intro hn5
    simp only [kAgg_a]
    refine ⟨encS_len _, kStN_of (upd_same _ _ _) rfl (by rw [encS_len]; decide) (encS_cell _) ?_⟩
    rw [splice_all (cs := [(.int .i64 0), (.int .i64 0), (.int .u64 0), (.int .u64 0), (.int .u64 0), (.int .u64 0), (.int .u64 0), (.int .u64 0), (.int .u64 0), (.int .u64 0), (.int .i64 0)]) (by rw [encS_len]; rfl)]
    have hs6 := ((Sub.refl g4).new hn5 (some (.cells [(.int .i64 0), (.int .i64 0), (.int .u64 0), (.int .u64 0), (.int .u64 0), (.int .u64 0), (.int .u64 0), (.int .u64 0), (.int .u64 0), (.int .u64 0), (.int .i64 0)] .exact))).upd_fresh (some (.cells (encS ⟨3, 5, d, 1⟩) .exact)) hn5
    have hl11 := upd_same (upd g4 n5 (some (.cells [(.int .i64 0), (.int .i64 0), (.int .u64 0), (.int .u64 0), (.int .u64 0), (.int .u64 0), (.int .u64 0), (.int .u64 0), (.int .u64 0), (.int .u64 0), (.int .i64 0)] .exact))) n5 (some (.cells (encS ⟨3, 5, d, 1⟩) .exact))
    generalize upd (upd g4 n5 (some (.cells [(.int .i64 0), (.int .i64 0), (.int .u64 0), (.int .u64 0), (.int .u64 0), (.int .u64 0), (.int .u64 0), (.int .u64 0), (.int .u64 0), (.int .u64 0), (.int .i64 0)] .exact))) n5 (some (.cells (encS ⟨3, 5, d, 1⟩) .exact)) = g6 at *
    refine kSplit_t rfl ?_
    refine kLd_of hl11 (encS_0 _) ?_
    simp only [kBin_eql]
    refine kSplit_t rfl ?_
    refine kLdN_of hl11 (by rw [encS_len]; decide) ?_
    rw [show (0 + 2 : Nat) = 2 from rfl, encS_data]
    show kPtr (t 2) _
    rw [t2]
    simp only [kPtr_p]
    refine ldL (hs6.live (hs4.live hl2)) (eqL _ _ _ ?_)
    refine kSplit_t (by simp) ?_
    refine kLd_of hl11 (encS_1 _) ?_
    simp only [kBin_eql]
    refine kSplit_t rfl ?_
    exact wakes05_spec fun n' => aRet_of (hs1.trans (hs4.trans hs6)) (hK _)
end Go.Proofs.Ytncodeibkmekmaa.Gen

namespace Go.Proofs.Ytncodeibkmekmaa.Gen
open Go Go.Proofs.Ytncodeibkmekmaa.Abs Go.RowKit
variable {g : G} {n : Nat}
/-- a step -/
structure Sp where
  kind : Int
  line : Int
  state : Int
  d : Ln
def encP (x : Sp) : List Value := [.int .i64 x.kind, .int .i64 x.line, .int .i64 x.state] ++ encL x.d
theorem encP_len (x : Sp) : (encP x).length = 11 := by simp [encP, encL_len]
theorem encP_cell (x : Sp) : ∀ v ∈ encP x, isCell v = true := by
  intro v hv
  simp only [encP, List.mem_append, List.mem_cons, List.not_mem_nil, or_false] at hv
  rcases hv with (rfl | rfl | rfl) | h
  · rfl
  · rfl
  · rfl
  · exact encL_cell _ v h
theorem encP_data (x : Sp) : ((encP x).drop 3).take 8 = encL x.d := by
  show (encL x.d).take 8 = _
  rw [List.take_of_length_le (by rw [encL_len]; exact Nat.le_refl _)]
theorem ldPd {l : Nat} {x : Sp} {bk : BK} {K : List Value → Prop} (h : g l = some (.cells (encP x) bk)) (k : K (encL x.d)) : kLdN g l (0 + 3) 8 K := by
  refine kLdN_of h (by rw [encP_len]; decide) ?_
  rw [Nat.zero_add, encP_data]; exact k

theorem ref04Set_spec {sets line : Int} (hs : sets = 1 ∨ sets = 2 ∨ sets = 4 ∨ sets = 8) (hl : 0 ≤ line) {K : Cont} (hK : ∀ n', K (.int .i64 (line % sets)) g n') : AC bellowsref04_Set_id [.int .i64 sets, .int .i64 line] g n K := by
  refine ACalls.fold X0_mono ?_
  rw [← bellowsref04_Set_eq]
  have e : line.tmod sets = line % sets := Int.tmod_eq_emod_of_nonneg hl
  simp only [bellowsref04_Set, kBin_neq, kBin_lss, kBin_rem, kSplit_b, decide_eq_true_eq, decide_eq_false_iff_not, e]
  have fin : (line < 0 → aRet K (.int .i64 0) g n) ∧ (¬ line < 0 → sets ≠ 0 ∧ aRet K (.int .i64 (line % sets)) g n) := ⟨fun h => by omega, fun _ => ⟨by omega, aRet_of (Sub.refl _) (hK _)⟩⟩
  exact ⟨fun h1 => ⟨fun h2 => ⟨fun h4 => ⟨fun h8 => by omega, fun _ => fin⟩, fun _ => fin⟩, fun _ => fin⟩, fun _ => fin⟩

theorem keepMod_spec {a : Int} {K : Cont} (hK : ∀ n', K (.int .i64 (a % 64)) g n') (ha : -9223372036854775808 ≤ a ∧ a ≤ 9223372036854775807) : AC bellowskeep_Mod_id [.int .i64 a, .int .i64 64] g n K := by
  refine ACalls.fold X0_mono ?_
  rw [← bellowskeep_Mod_eq]
  simp only [bellowskeep_Mod, kBin_lss]
  refine kSplit_f (by simp) ?_
  simp only [kBin_rem, kBin_add]
  refine ⟨by decide, by decide, ?_⟩
  have h1 : -64 < a.tmod 64 ∧ a.tmod 64 < 64 := by
    have := Int.lt_tmod_of_pos a (show (0 : Int) < 64 by decide)
    have := Int.tmod_lt_of_pos a (show (0 : Int) < 64 by decide)
    omega
  rw [wrap64_of (by omega) (by omega)]
  have : (a.tmod 64 + 64).tmod 64 = a % 64 := by
    rw [Int.tmod_eq_emod_of_nonneg (by omega)]
    have h2 := Int.tmod_def a 64
    generalize a.tdiv 64 = q at h2
    omega
  rw [this]
  exact aRet_of (Sub.refl _) (hK _)

theorem slots_apart {A : Arr} (hw : A.wf) : A.slots.Pairwise fun s t => s.line ≠ t.line ∧ s.used ≠ t.used := by
  have h1 : A.l.Pairwise fun s t => s.state ≠ 0 → t.state ≠ 0 → s.line ≠ t.line ∧ s.used ≠ t.used := by
    rw [List.pairwise_iff_getElem]
    intro i j hi hj hij h0 h0'
    have e1 : A.l[i]? = some A.l[i] := List.getElem?_eq_getElem hi
    have e2 : A.l[j]? = some A.l[j] := List.getElem?_eq_getElem hj
    exact ⟨fun e => by have := hw.once i j _ _ e1 e2 h0 h0' (.inl e); omega, fun e => by have := hw.once i j _ _ e1 e2 h0 h0' (.inr e); omega⟩
  unfold Arr.slots
  refine List.Pairwise.imp_of_mem ?_ (h1.filter _)
  intro a b ha hb h
  have ha := (List.mem_filter.1 ha).2
  have hb := (List.mem_filter.1 hb).2
  exact h (by simpa using ha) (by simpa using hb)
theorem slots_mem {A : Arr} (hw : A.wf) {s : St} (hs : s ∈ A.slots) : 0 ≤ s.line ∧ s.state ≠ 0 ∧ Has A s.line s ∧ ∃ i, A.l[i]? = some s ∧ A.from s.line ≤ i ∧ i < A.from s.line + A.ways := by
  obtain ⟨h1, h2⟩ := List.mem_filter.1 hs
  obtain ⟨i, hi⟩ := List.getElem?_of_mem h1
  have h0 : s.state ≠ 0 := by simpa using h2
  have := hw.place i s hi h0
  exact ⟨this.1, h0, ⟨i, hi, h0, rfl⟩, i, hi, this.2.1, this.2.2.1⟩
theorem slots_many {A : Arr} (hok : A.ok) (hw : A.wf) {line : Int} (hl : 0 ≤ line) : (A.slots.filter fun s => decide (s.line % A.sets = line % A.sets)).length ≤ A.ways := by
  unfold Arr.slots
  rw [List.filter_filter, ← List.countP_eq_length_filter]
  have e : A.l = A.l.take (A.from line) ++ (A.part line ++ (A.l.drop (A.from line)).drop A.ways) := by
    unfold Arr.part
    rw [List.take_append_drop, List.take_append_drop]
  have key : ∀ i s, A.l[i]? = some s → (decide (s.line % A.sets = line % A.sets) && !decide (s.state = 0)) = true → A.from line ≤ i ∧ i < A.from line + A.ways := by
    intro i s hi hp
    simp only [Bool.and_eq_true, decide_eq_true_eq, Bool.not_eq_true', decide_eq_false_iff_not] at hp
    have := hw.place i s hi hp.2
    have e : A.from s.line = A.from line := by unfold Arr.from; rw [hp.1]
    rw [e] at this
    exact ⟨this.2.1, this.2.2.1⟩
  have c1 : (A.l.take (A.from line)).countP (fun s => decide (s.line % A.sets = line % A.sets) && !decide (s.state = 0)) = 0 := by
    rw [List.countP_eq_zero]
    intro s hs hp
    obtain ⟨i, hi⟩ := List.getElem?_of_mem hs
    rw [List.getElem?_take] at hi
    split at hi
    · have := key i s hi hp; omega
    · cases hi
  have c3 : ((A.l.drop (A.from line)).drop A.ways).countP (fun s => decide (s.line % A.sets = line % A.sets) && !decide (s.state = 0)) = 0 := by
    rw [List.countP_eq_zero]
    intro s hs hp
    obtain ⟨i, hi⟩ := List.getElem?_of_mem hs
    rw [List.drop_drop, List.getElem?_drop] at hi
    have := key _ s hi hp; omega
  rw [e, List.countP_append, List.countP_append, c1, c3]
  have := List.countP_le_length (p := fun s : St => decide (s.line % A.sets = line % A.sets) && !decide (s.state = 0)) (l := A.part line)
  rw [Arr.part_len hok hl] at this
  omega
theorem room_cases {A : Arr} (hok : A.ok) (hw : A.wf) {line : Int} (hl : 0 ≤ line) : A.room line = (true, -1) ∨ A.room line = (false, -1) ∨
    ∃ s ∈ A.part line, s.rest ∧ A.room line = (false, s.line) ∧ 0 ≤ s.line ∧ (∀ t ∈ A.part line, t.rest → s.used ≤ t.used) ∧ Has A s.line s := by
  unfold Arr.room
  rw [if_neg (by omega)]
  by_cases hf : ∃ s ∈ A.part line, s.state = 0
  · exact .inl (roomScan_free _ _ _ hf)
  · have h0 : ∀ s ∈ A.part line, s.state ≠ 0 := fun s hs e => hf ⟨s, hs, e⟩
    have hm : ∀ s ∈ A.part line, 0 ≤ s.line ∧ Has A s.line s := by
      intro s hs
      obtain ⟨i, hi, _, _⟩ := Arr.part_mem hs
      exact ⟨(hw.place i s hi (h0 s hs)).1, i, hi, h0 s hs, rfl⟩
    obtain ⟨v', e, hh⟩ := roomScan_full (A.part line) (-1) 0 h0 (fun s hs _ => (hm s hs).1) (.inl rfl)
    rw [e]
    rcases hh with ⟨rfl, _, _⟩ | ⟨u, hh, _, hmin⟩
    · exact .inr (.inl rfl)
    · rcases hh with ⟨_, _, hh⟩ | ⟨s, hs, hr, rfl, rfl⟩
      · omega
      · exact .inr (.inr ⟨s, hs, hr, rfl, (hm s hs).1, hmin, (hm s hs).2⟩)
theorem part_of {A : Arr} (hw : A.wf) {line : Int} {s : St} (hs : s ∈ A.slots) (e : s.line % A.sets = line % A.sets) : s ∈ A.part line := by
  obtain ⟨_, _, _, i, hi, h1, h2⟩ := slots_mem hw hs
  have e : A.from s.line = A.from line := by unfold Arr.from; rw [e]
  rw [e] at h1 h2
  have : (A.part line)[i - A.from line]? = some s := by
    rw [Arr.part_idx (by omega), show A.from line + (i - A.from line) = i by omega]; exact hi
  exact List.mem_of_getElem? this
end Go.Proofs.Ytncodeibkmekmaa.Gen

namespace Go.Proofs.Ytncodeibkmekmaa.Gen
open Go Go.Proofs.Ytncodeibkmekmaa.Abs Go.RowKit
variable {g : G} {n : Nat}
theorem drop_mem {α : Type} {xs : List α} {i : Nat} {x : α} (h : xs[i]? = some x) : x ∈ xs := List.mem_of_getElem? h
section
variable {a2 : Value} {xs : List Sp} {la ls S W : Nat} {K : Cont} {g0 : G} {i : Nat} {I : ECont}
structure AO (g0 : G) (a2 : Value) (xs : List Sp) (la ls S W : Nat) (K : Cont) : Prop where
  hx : ∀ x ∈ xs, -9223372036854775808 ≤ x.line ∧ x.line ≤ 9223372036854775807
  hxl : xs.length ≤ 200
  h1 : Sl encP 11 g0 a2 xs
  hla : g0 la = none
  hls : g0 ls = none
  hK : ∀ n', K (.bool true) g0 n'
/-- the frame, the array -/
structure AOt (a2 : Value) (la S W i : Nat) (t : Env) : Prop where
  t2 : t 2 = a2
  t7 : t 7 = .int .i64 S
  t8 : t 8 = .int .i64 W
  t9 : t 9 = ptr la 0
  t11 : t 11 = .int .i64 i
structure AOa (g0 : G) (la ls S W i : Nat) (A : Arr) (g : G) : Prop where
  hs : Sub g0 g
  hh : ArrH g la ls A
  ok : A.ok
  wf : A.wf
  sets : A.sets = S
  ways : A.ways = W
  used : A.used ≤ i
theorem AOa.mono {A : Arr} {g' : G} (h : AOa g0 la ls S W i A g) (hs : Sub g g') : AOa g0 la ls S W i A g' := ⟨h.hs.trans hs, h.hh.mono hs, h.ok, h.wf, h.sets, h.ways, h.used⟩
def Next (g0 : G) (a2 : Value) (la ls S W i : Nat) (I : ECont) : Prop := ∀ (t : Env) (g : G) (n : Nat) (A : Arr), AOt a2 la S W (i + 1) t → AOa g0 la ls S W (i + 1) A g → I t g n
theorem AO_j9 (P : AO g0 a2 xs la ls S W K) (hi : i < 1000) (hN : Next g0 a2 la ls S W i I) {t : Env} {A : Arr} (ht : AOt a2 la S W i t) (ha : AOa g0 la ls S W (i + 1) A g) : bellowslaw05_ArrayOnce_j9 AC K I t g n := by
  simp only [bellowslaw05_ArrayOnce_j9, ht.t11, kBin_add]
  rw [wrapNat (by omega)]
  exact hN _ _ _ A ⟨ht.t2, ht.t7, ht.t8, ht.t9, rfl⟩ ha
theorem AO_l10 (P : AO g0 a2 xs la ls S W K) (hi : i < 1000) (hN : Next g0 a2 la ls S W i I) {t : Env} {A : Arr} {l20 : Nat} {v : St} {line : Int} (ht : AOt a2 la S W i t) (ha : AOa g0 la ls S W (i + 1) A g) (hl : 0 ≤ line)
    (h13 : Sl encS 11 g (t 13) A.slots) (h17 : t 17 = .int .i64 line) (h20 : t 20 = ptr l20 0) (h22 : t 22 = .int .i64 0) (hl20 : g l20 = some (.cells (encS v) .exact)) (hmin : ∀ s ∈ A.part line, s.rest → v.used ≤ s.used) :
    lfp (bellowslaw05_ArrayOnce_l10 AC K I) t g n := by
  have hlen : A.slots.length ≤ 64 := by
    have := List.length_filter_le (fun s : St => !decide (s.state = 0)) A.l
    have := Arr.small ha.ok
    have := ha.ok.2.2.2.1
    unfold Arr.slots; omega
  have hS : (S : Int) = 1 ∨ (S : Int) = 2 ∨ (S : Int) = 4 ∨ (S : Int) = 8 := by have := ha.ok.1; rw [ha.sets] at this; omega
  refine lfp_ind (fun m t' g' n' => g' = g ∧ ∃ (k : Nat), m = A.slots.length - k ∧ k ≤ A.slots.length ∧ AOt a2 la S W i t' ∧ t' 13 = t 13 ∧ t' 17 = .int .i64 line ∧ t' 20 = ptr l20 0 ∧ t' 22 = .int .i64 k) ?_ (m := A.slots.length)
    ⟨rfl, 0, by simp, by simp, ht, rfl, h17, h20, h22⟩
  clear h17 h20 h22
  rintro J m t' g1 n1 hJ ⟨rfl, k, hm, hk, ht, t13, t17, t20, t22⟩
  simp only [bellowslaw05_ArrayOnce_l10, t13, t17, t20, t22, ht.t7]
  refine h13.len ?_
  simp only [kBin_lss, kSplit_b, decide_eq_true_eq, decide_eq_false_iff_not]
  refine ⟨fun hlt => ?_, fun hge => AO_j9 P hi hN (by exact ⟨ht.t2, ht.t7, ht.t8, ht.t9, ht.t11⟩) ha⟩
  have hlt : k < A.slots.length := by omega
  have he : A.slots[k]? = some A.slots[k] := List.getElem?_eq_getElem hlt
  generalize A.slots[k] = s at he
  obtain ⟨hs0, hsn, hhs, _⟩ := slots_mem ha.wf (drop_mem he)
  have next : ∀ (t'' : Env) (n2 : Nat), AOt a2 la S W i t'' → t'' 13 = t 13 → t'' 17 = .int .i64 line → t'' 20 = ptr l20 0 → t'' 22 = .int .i64 ((k + 1 : Nat) : Int) → J t'' g1 n2 := by
    intro t'' n2 ht t13 t17 t20 t22
    exact hJ (A.slots.length - (k + 1)) _ _ _ (by omega) ⟨rfl, k + 1, rfl, by omega, ht, t13, t17, t20, t22⟩
  refine h13.idx encS_len he (fun l o hat => ?_)
  simp only [kPtr_p]
  refine hat.ld (encS_0 s) ?_
  simp only [kBin_leq, kBin_add, kSplit_b, decide_eq_true_eq, decide_eq_false_iff_not]
  rw [wrapNat (by omega)]
  refine ⟨fun hst => ?_, fun _ => next _ _ ⟨ht.t2, ht.t7, ht.t8, ht.t9, ht.t11⟩ t13 t17 t20 rfl⟩
  refine h13.idx encS_len he (fun l o hat => ?_)
  simp only [kPtr_p]
  refine hat.ld (encS_1 s) ?_
  refine ref04Set_spec hS hs0 (fun n2 => ?_)
  refine ref04Set_spec hS hl (fun n3 => ?_)
  simp only [kBin_eql, kSplit_b, decide_eq_true_eq, decide_eq_false_iff_not]
  refine ⟨fun hsame => ?_, fun _ => next _ _ ⟨ht.t2, ht.t7, ht.t8, ht.t9, ht.t11⟩ t13 t17 t20 rfl⟩
  refine h13.idx encS_len he (fun l o hat => ?_)
  simp only [kPtr_p]
  refine hat.ld (encS_10 s) ?_
  refine kLd_of hl20 (encS_10 v) ?_
  obtain ⟨_, _, _, ii, hii, _, _⟩ := slots_mem ha.wf (drop_mem he)
  have hrest : s.rest := ⟨(ha.wf.place ii s hii hsn).2.2.2.1, hst⟩
  have := hmin s (part_of ha.wf (drop_mem he) (by rw [ha.sets]; exact hsame)) hrest
  simp only [kBin_lss]
  refine kSplit_f (by simp; omega) ?_
  exact next _ _ ⟨ht.t2, ht.t7, ht.t8, ht.t9, ht.t11⟩ t13 t17 t20 rfl
theorem AO_j8 (P : AO g0 a2 xs la ls S W K) (hi : i < 1000) (hN : Next g0 a2 la ls S W i I) {t : Env} {A : Arr} {l12 : Nat} {x : Sp} (hx : x ∈ xs) (ht : AOt a2 la S W i t) (ha : AOa g0 la ls S W (i + 1) A g)
    (h13 : Sl encS 11 g (t 13) A.slots) (h12 : t 12 = ptr l12 0) (hl12 : g l12 = some (.cells (encP x) .exact)) : bellowslaw05_ArrayOnce_j8 AC K I t g n := by
  have hxr := P.hx x hx
  simp only [bellowslaw05_ArrayOnce_j8, h12, ht.t9, kPtr_p]
  refine kLd_of hl12 (v := .int .i64 x.line) rfl ?_
  refine keepMod_spec (fun n2 => ?_) hxr
  have hl : 0 ≤ x.line % 64 := by omega
  generalize x.line % 64 = line at *
  refine Room_spec ha.ok ha.hh (fun n3 => ?_)
  rcases room_cases ha.ok ha.wf hl with e | e | ⟨s, hs, hr, e, hs0, hmin, hhs⟩
  · rw [e]
    simp only [kExtract_t, kGet_zero, kGet_succ]
    exact kSplit_t rfl (AO_j9 P hi hN ⟨ht.t2, ht.t7, ht.t8, ht.t9, ht.t11⟩ ha)
  · rw [e]
    simp only [kExtract_t, kGet_zero, kGet_succ, kBin_lss]
    exact kSplit_f rfl (kSplit_t rfl (AO_j9 P hi hN ⟨ht.t2, ht.t7, ht.t8, ht.t9, ht.t11⟩ ha))
  · rw [e]
    simp only [kExtract_t, kGet_zero, kGet_succ, kBin_lss]
    refine kSplit_f rfl (kSplit_f (by simp; omega) ?_)
    refine Find_spec ha.ok ha.hh (fun n4 => ?_)
    rw [(hhs.find ha.ok ha.wf).1]
    simp only [kExtract_t, kGet_zero, kGet_succ]
    intro hn
    simp only [kAgg_a]
    refine ⟨encS_len _, kStN_of (upd_same _ _ _) rfl (by rw [encS_len]; decide) (encS_cell _) ?_⟩
    rw [splice_all (cs := [(.int .i64 0), (.int .i64 0), (.int .u64 0), (.int .u64 0), (.int .u64 0), (.int .u64 0), (.int .u64 0), (.int .u64 0), (.int .u64 0), (.int .u64 0), (.int .i64 0)]) (by rw [encS_len]; rfl)]
    have hs6 := ((Sub.refl g).new hn (some (.cells [(.int .i64 0), (.int .i64 0), (.int .u64 0), (.int .u64 0), (.int .u64 0), (.int .u64 0), (.int .u64 0), (.int .u64 0), (.int .u64 0), (.int .u64 0), (.int .i64 0)] .exact))).upd_fresh (some (.cells (encS s) .exact)) hn
    have hl20 := upd_same (upd g n4 (some (.cells [(.int .i64 0), (.int .i64 0), (.int .u64 0), (.int .u64 0), (.int .u64 0), (.int .u64 0), (.int .u64 0), (.int .u64 0), (.int .u64 0), (.int .u64 0), (.int .i64 0)] .exact))) n4 (some (.cells (encS s) .exact))
    generalize upd (upd g n4 (some (.cells [(.int .i64 0), (.int .i64 0), (.int .u64 0), (.int .u64 0), (.int .u64 0), (.int .u64 0), (.int .u64 0), (.int .u64 0), (.int .u64 0), (.int .u64 0), (.int .i64 0)] .exact))) n4 (some (.cells (encS s) .exact)) = g6 at *
    simp only [kUn_not]
    refine kSplit_f rfl ?_
    refine kLd_of hl20 (encS_0 _) ?_
    simp only [kBin_gtr]
    refine kSplit_f (by have := hr.2; simp; omega) ?_
    exact AO_l10 (l20 := n4) (v := s) P hi hN ⟨ht.t2, ht.t7, ht.t8, ht.t9, ht.t11⟩ (ha.mono hs6) hl (h13.mono hs6) rfl rfl rfl hl20 hmin
theorem AO_l4 (P : AO g0 a2 xs la ls S W K) {J : ECont} {t : Env} {A : Arr} {l12 k : Nat} {s : St} (ht : AOt a2 la S W i t) (ha : AOa g0 la ls S W (i + 1) A g)
    (h13 : Sl encS 11 g (t 13) A.slots) (h12 : t 12 = ptr l12 0) (h14 : t 14 = .int .i64 k) (h15 : t 15 = .int .i64 0) (h16 : t 16 = .int .i64 0) (hk : A.slots[k]? = some s)
    (hJ : ∀ (t' : Env) (n : Nat), AOt a2 la S W i t' → t' 13 = t 13 → t' 12 = ptr l12 0 → t' 14 = .int .i64 ((k + 1 : Nat) : Int) → J t' g n) : lfp (bellowslaw05_ArrayOnce_l4 AC K I J) t g n := by
  have hlen : A.slots.length ≤ 64 := by
    have := List.length_filter_le (fun s : St => !decide (s.state = 0)) A.l
    have := Arr.small ha.ok
    have := ha.ok.2.2.2.1
    unfold Arr.slots; omega
  have hS : (S : Int) = 1 ∨ (S : Int) = 2 ∨ (S : Int) = 4 ∨ (S : Int) = 8 := by have := ha.ok.1; rw [ha.sets] at this; omega
  obtain ⟨hs0, hsn, hhs, _⟩ := slots_mem ha.wf (drop_mem hk)
  have hmany := slots_many ha.ok ha.wf hs0
  rw [ha.ways] at hmany
  rw [ha.sets] at hmany
  have hkl : k < A.slots.length := (List.getElem?_eq_some_iff.1 hk).1
  refine lfp_ind (fun m t' g' n' => g' = g ∧ ∃ (j : Nat), m = A.slots.length - j ∧ j ≤ A.slots.length ∧ AOt a2 la S W i t' ∧ t' 13 = t 13 ∧ t' 12 = ptr l12 0 ∧ t' 14 = .int .i64 k ∧ t' 16 = .int .i64 j ∧
      t' 15 = .int .i64 (((A.slots.take j).filter fun u => decide (u.line % (S : Int) = s.line % (S : Int))).length : Nat)) ?_ (m := A.slots.length)
    ⟨rfl, 0, by simp, by simp, ht, rfl, h12, h14, h16, by simpa using h15⟩
  clear h12 h14 h15 h16
  rintro I4 m t' g1 n1 hI4 ⟨rfl, j, hm, hj, ht, t13, t12, t14, t16, t15⟩
  have hcnt : ((A.slots.take j).filter fun u => decide (u.line % (S : Int) = s.line % (S : Int))).length ≤ 64 := by
    have := List.length_filter_le (fun u : St => decide (u.line % (S : Int) = s.line % (S : Int))) (A.slots.take j)
    rw [List.length_take] at this; omega
  simp only [bellowslaw05_ArrayOnce_l4, t13, t14, t16, t15, ht.t7]
  refine h13.len ?_
  simp only [kBin_lss, kSplit_b, decide_eq_true_eq, decide_eq_false_iff_not]
  refine ⟨fun hlt => ?_, fun hge => ?_⟩
  · have hlt : j < A.slots.length := by omega
    have he : A.slots[j]? = some A.slots[j] := List.getElem?_eq_getElem hlt
    generalize A.slots[j] = u at he
    obtain ⟨hu0, hun, hhu, _⟩ := slots_mem ha.wf (drop_mem he)
    have next : ∀ (t'' : Env) (n2 : Nat), AOt a2 la S W i t'' → t'' 13 = t 13 → t'' 12 = ptr l12 0 → t'' 14 = .int .i64 k → t'' 16 = .int .i64 j →
        t'' 15 = .int .i64 (((A.slots.take (j + 1)).filter fun u => decide (u.line % (S : Int) = s.line % (S : Int))).length : Nat) → bellowslaw05_ArrayOnce_j5 AC K I J I4 t'' g1 n2 := by
      intro t'' n2 ht t13 t12 t14 t16 t15
      simp only [bellowslaw05_ArrayOnce_j5, t16, kBin_add]
      rw [wrapNat (by omega)]
      exact hI4 (A.slots.length - (j + 1)) _ _ _ (by omega) ⟨rfl, j + 1, rfl, by omega, ⟨ht.t2, ht.t7, ht.t8, ht.t9, ht.t11⟩, t13, t12, t14, rfl, t15⟩
    simp only [kBin_neq, kSplit_b, decide_eq_true_eq, decide_eq_false_iff_not]
    refine ⟨fun hne => ?_, fun heq => ?_⟩
    · have hjk : j ≠ k := by omega
      have hap : u.line ≠ s.line ∧ u.used ≠ s.used := by
        have hp := List.pairwise_iff_getElem.1 (slots_apart ha.wf)
        have e1 := (List.getElem?_eq_some_iff.1 he).2
        have e2 := (List.getElem?_eq_some_iff.1 hk).2
        rcases Nat.lt_or_ge j k with h | h
        · have := hp j k hlt hkl h
          rw [e1, e2] at this; exact this
        · have := hp k j hkl hlt (by omega)
          rw [e1, e2] at this; exact ⟨fun e => this.1 e.symm, fun e => this.2 e.symm⟩
      refine h13.idx encS_len he (fun l o hat => ?_)
      simp only [kPtr_p]
      refine hat.ld (encS_1 u) ?_
      refine h13.idx encS_len hk (fun l o hat => ?_)
      simp only [kPtr_p]
      refine hat.ld (encS_1 s) ?_
      simp only [kBin_eql]
      refine kSplit_f (by simpa using hap.1) ?_
      refine h13.idx encS_len he (fun l o hat => ?_)
      simp only [kPtr_p]
      refine hat.ld (encS_10 u) ?_
      refine h13.idx encS_len hk (fun l o hat => ?_)
      simp only [kPtr_p]
      refine hat.ld (encS_10 s) ?_
      simp only [kBin_eql]
      refine kSplit_f (by simpa using hap.2) ?_
      refine h13.idx encS_len he (fun l o hat => ?_)
      simp only [kPtr_p]
      refine hat.ld (encS_1 u) ?_
      refine h13.idx encS_len hk (fun l o hat => ?_)
      simp only [kPtr_p]
      refine hat.ld (encS_1 s) ?_
      refine ref04Set_spec hS hu0 (fun n2 => ?_)
      refine ⟨rfl, ref04Set_spec hS hs0 (fun n3 => ?_)⟩
      simp only [kBin_eql, kSplit_b, decide_eq_true_eq, decide_eq_false_iff_not, kBin_add]
      refine ⟨fun hsame => ?_, fun hns => ?_⟩
      · rw [wrapNat (by omega)]
        refine next _ _ ⟨ht.t2, ht.t7, ht.t8, ht.t9, ht.t11⟩ t13 t12 t14 t16 ?_
        rw [take_add he, List.filter_append]
        have : List.filter (fun u => decide (u.line % (S : Int) = s.line % (S : Int))) [u] = [u] := by simp [hsame]
        rw [this, List.length_append]; rfl
      · refine next _ _ ⟨ht.t2, ht.t7, ht.t8, ht.t9, ht.t11⟩ t13 t12 t14 t16 ?_
        rw [take_add he, List.filter_append]
        have : List.filter (fun u => decide (u.line % (S : Int) = s.line % (S : Int))) [u] = [] := by simp [hns]
        rw [this, List.append_nil]; exact t15
    · have hjk : j = k := by omega
      subst hjk
      rw [hk] at he; cases he
      refine h13.idx encS_len hk (fun l o hat => ?_)
      simp only [kPtr_p]
      refine hat.ld (encS_1 s) ?_
      refine h13.idx encS_len hk (fun l o hat => ?_)
      simp only [kPtr_p]
      refine hat.ld (encS_1 s) ?_
      refine ref04Set_spec hS hs0 (fun n2 => ?_)
      refine ⟨rfl, ref04Set_spec hS hs0 (fun n3 => ?_)⟩
      simp only [kBin_eql, kBin_add]
      refine kSplit_t (by simp) ?_
      rw [wrapNat (by omega)]
      refine next _ _ ⟨ht.t2, ht.t7, ht.t8, ht.t9, ht.t11⟩ t13 t12 t14 t16 ?_
      rw [take_add hk, List.filter_append]
      have : List.filter (fun u => decide (u.line % (S : Int) = s.line % (S : Int))) [s] = [s] := by simp
      rw [this, List.length_append]; rfl
  · have : j = A.slots.length := by omega
    subst this
    rw [List.take_length] at t15
    simp only [bellowslaw05_ArrayOnce_j6]
    show kBin .int .gtr (t' 15) (t' 8) _
    rw [t15, ht.t8]
    simp only [kBin_gtr]
    refine kSplit_f (by simp; omega) ?_
    simp only [bellowslaw05_ArrayOnce_j7]
    show kBin .int .add (t' 14) _ _
    rw [t14]
    simp only [kBin_add]
    rw [wrapNat (by omega)]
    exact hJ _ _ ⟨ht.t2, ht.t7, ht.t8, ht.t9, ht.t11⟩ t13 t12 rfl
theorem AO_j2 (P : AO g0 a2 xs la ls S W K) (hi : i < 1000) (hN : Next g0 a2 la ls S W i I) {t : Env} {A : Arr} {l12 : Nat} {x : Sp} (hx : x ∈ xs) (ht : AOt a2 la S W i t) (ha : AOa g0 la ls S W (i + 1) A g)
    (h12 : t 12 = ptr l12 0) (hl12 : g l12 = some (.cells (encP x) .exact)) : bellowslaw05_ArrayOnce_j2 AC K I t g n := by
  simp only [bellowslaw05_ArrayOnce_j2, ht.t9]
  refine Slots_spec ha.ok ha.hh (fun v1 g1 n1 hs1 h1 => ?_)
  have ha1 := ha.mono hs1
  have hl12' := hs1.live hl12
  have hlen : A.slots.length ≤ 64 := by
    have := List.length_filter_le (fun s : St => !decide (s.state = 0)) A.l
    have := Arr.small ha.ok
    have := ha.ok.2.2.2.1
    unfold Arr.slots; omega
  refine lfp_ind (fun m t' g' n' => g' = g1 ∧ ∃ (k : Nat), m = A.slots.length - k ∧ k ≤ A.slots.length ∧ AOt a2 la S W i t' ∧ t' 13 = v1 ∧ t' 12 = ptr l12 0 ∧ t' 14 = .int .i64 k) ?_ (m := A.slots.length)
    ⟨rfl, 0, by simp, by simp, ⟨ht.t2, ht.t7, ht.t8, ht.t9, ht.t11⟩, rfl, h12, rfl⟩
  rintro J m t' g2 n2 hJ ⟨rfl, k, hm, hk, ht, t13, t12, t14⟩
  simp only [bellowslaw05_ArrayOnce_l3, t13, t14]
  refine h1.len ?_
  simp only [kBin_lss, kSplit_b, decide_eq_true_eq, decide_eq_false_iff_not]
  refine ⟨fun hlt => ?_, fun hge => ?_⟩
  · have hlt : k < A.slots.length := by omega
    have he : A.slots[k]? = some A.slots[k] := List.getElem?_eq_getElem hlt
    refine AO_l4 (s := A.slots[k]) P ⟨ht.t2, ht.t7, ht.t8, ht.t9, ht.t11⟩ ha1 (by show Sl encS 11 g2 (t' 13) _; rw [t13]; exact h1) t12 (by exact t14) rfl rfl he (fun t'' n3 ht t13' t12 t14 => ?_)
    exact hJ (A.slots.length - (k + 1)) _ _ _ (by omega) ⟨rfl, k + 1, rfl, by omega, ht, t13'.trans t13, t12, t14⟩
  · exact AO_j8 P hi hN hx ⟨ht.t2, ht.t7, ht.t8, ht.t9, ht.t11⟩ ha1 (by show Sl encS 11 g2 (t' 13) _; rw [t13]; exact h1) t12 hl12'
end
theorem ArrayOnce_spec {a2 : Value} {n0 w0 : Int} {xs : List Sp} (h1 : Sl encP 11 g a2 xs) (hx : ∀ x ∈ xs, -9223372036854775808 ≤ x.line ∧ x.line ≤ 9223372036854775807) (hn0 : 0 ≤ n0 ∧ n0 ≤ 255) (hw0 : 0 ≤ w0 ∧ w0 ≤ 255) {K : Cont} (hK : ∀ n', K (.bool true) g n') :
    AC bellowslaw05_ArrayOnce_id [.int .u8 n0, .int .u8 w0, a2] g n K := by
  refine ACalls.fold X0_mono ?_
  rw [← bellowslaw05_ArrayOnce_eq]
  simp only [bellowslaw05_ArrayOnce, kBin_rem]
  refine ⟨by decide, ?_⟩
  rw [Int.tmod_eq_emod_of_nonneg hn0.1]
  have hsh : ∀ {q : Int} {K' : Value → Prop}, 0 ≤ q → q < 4 → K' (.int .i64 (2 ^ q.toNat)) → kBin .int .shl (.int .i64 1) (.int .u8 q) K' := by
    intro q K' h0 h4 k
    have : q = 0 ∨ q = 1 ∨ q = 2 ∨ q = 3 := by omega
    rcases this with rfl | rfl | rfl | rfl <;> exact ⟨trivial, by decide, k⟩
  refine hsh (by omega) (by omega) ?_
  have hS : ∃ S : Nat, ((2 : Int) ^ (n0 % 4).toNat) = (S : Int) ∧ (S = 1 ∨ S = 2 ∨ S = 4 ∨ S = 8) := by
    have : n0 % 4 = 0 ∨ n0 % 4 = 1 ∨ n0 % 4 = 2 ∨ n0 % 4 = 3 := by omega
    rcases this with h | h | h | h <;> rw [h]
    · exact ⟨1, rfl, by omega⟩
    · exact ⟨2, rfl, by omega⟩
    · exact ⟨4, rfl, by omega⟩
    · exact ⟨8, rfl, by omega⟩
  obtain ⟨S, eS, hS⟩ := hS
  rw [eS]
  simp only [kConv_i, kBin_rem, kBin_add]
  refine ⟨by decide, ?_⟩
  rw [wrap64_of (a := w0) (by omega) (by omega), Int.tmod_eq_emod_of_nonneg hw0.1, wrap64_of (a := 1 + w0 % 8) (by omega) (by omega)]
  obtain ⟨W, hW⟩ : ∃ W : Nat, 1 + w0 % 8 = (W : Int) := ⟨(1 + w0 % 8).toNat, by omega⟩
  have hW2 : 1 ≤ W ∧ W ≤ 8 := by omega
  rw [hW]
  refine New_spec (fun h => absurd (show goodA S W by unfold goodA; omega) h) (fun _ la ls g2 n2 hs2 hla hls hh0 => ?_)
  simp only [kExtract_t, kGet_zero, kGet_succ, kBin_neq, kBin_p_eql]
  refine kSplit_f (by simp) (kSplit_f rfl ?_)
  refine (h1.mono hs2).len ?_
  simp only [kBin_gtr, kSplit_b, decide_eq_true_eq, decide_eq_false_iff_not]
  refine ⟨fun _ => ?_, fun hlen => ?_⟩
  · simp only [kBin_eql, kBin_p_neq]
    refine kSplit_t (by simp) (kSplit_t rfl ?_)
    exact wakes05_spec fun n' => aRet_of hs2 (hK _)
  have P : AO g a2 xs la ls S W K := ⟨hx, by omega, h1, hla, hls, hK⟩
  simp only [Int.toNat_natCast] at hh0
  have a0 : AOa g la ls S W 0 (arr0 S W) g2 := ⟨hs2, hh0, arr0_ok hS hW2.1 hW2.2, arr0_wf S W, rfl, rfl, Int.le_refl _⟩
  refine lfp_ind (fun m t g' n' => ∃ (i : Nat) (A : Arr), m = xs.length - i ∧ i ≤ xs.length ∧ AOt a2 la S W i t ∧ AOa g la ls S W i A g') ?_ (m := xs.length)
    ⟨0, arr0 S W, by simp, by simp, ⟨rfl, rfl, rfl, rfl, rfl⟩, a0⟩
  rintro I m t g3 n3 hI ⟨i, A, hm, hi, ht, ha⟩
  simp only [bellowslaw05_ArrayOnce_l1, ht.t2, ht.t9, ht.t11]
  refine (h1.mono ha.hs).len ?_
  simp only [kBin_lss, kSplit_b, decide_eq_true_eq, decide_eq_false_iff_not]
  refine ⟨fun hlt => ?_, fun hge => wakes05_spec fun n' => aRet_of ha.hs (hK _)⟩
  have hlt : i < xs.length := by omega
  have hN : Next g a2 la ls S W i I := fun t g n A ht ha => hI (xs.length - (i + 1)) _ _ _ (by omega) ⟨i + 1, A, rfl, by omega, ht, ha⟩
  have he : xs[i]? = some xs[i] := List.getElem?_eq_getElem hlt
  generalize xs[i] = x at he
  refine (h1.mono ha.hs).idx encP_len he (fun l o hat => ?_)
  simp only [kPtr_p]
  refine hat.ldN (encP_len _).symm ?_
  intro hn
  simp only [kAgg_a]
  refine ⟨encP_len _, kStN_of (upd_same _ _ _) rfl (by rw [encP_len]; decide) (encP_cell _) ?_⟩
  rw [splice_all (cs := [(.int .i64 0), (.int .i64 0), (.int .i64 0), (.int .u64 0), (.int .u64 0), (.int .u64 0), (.int .u64 0), (.int .u64 0), (.int .u64 0), (.int .u64 0), (.int .u64 0)]) (by rw [encP_len]; rfl)]
  have hs6 := ((Sub.refl g3).new hn (some (.cells [(.int .i64 0), (.int .i64 0), (.int .i64 0), (.int .u64 0), (.int .u64 0), (.int .u64 0), (.int .u64 0), (.int .u64 0), (.int .u64 0), (.int .u64 0), (.int .u64 0)] .exact))).upd_fresh (some (.cells (encP x) .exact)) hn
  have hl12 := upd_same (upd g3 n3 (some (.cells [(.int .i64 0), (.int .i64 0), (.int .i64 0), (.int .u64 0), (.int .u64 0), (.int .u64 0), (.int .u64 0), (.int .u64 0), (.int .u64 0), (.int .u64 0), (.int .u64 0)] .exact))) n3 (some (.cells (encP x) .exact))
  have hnla := ne_of_live ha.hh.obj hn
  have hnls := ne_of_live ha.hh.row hn
  generalize upd (upd g3 n3 (some (.cells [(.int .i64 0), (.int .i64 0), (.int .i64 0), (.int .u64 0), (.int .u64 0), (.int .u64 0), (.int .u64 0), (.int .u64 0), (.int .u64 0), (.int .u64 0), (.int .u64 0)] .exact))) n3 (some (.cells (encP x) .exact)) = g6 at *
  have ha6 := ha.mono hs6
  have hu := ha.used
  have fin : ∀ (A' : Arr) (g' : G), Sub (hide g6 la ls) g' → ArrH g' la ls A' → A'.ok → A'.wf → A'.sets = A.sets → A'.ways = A.ways → A'.used ≤ A.used + 1 → AOa g la ls S W (i + 1) A' g' ∧ g' n3 = some (.cells (encP x) .exact) := by
    intro A' g' h1 h2 h3 h4 h5 h6 h7
    exact ⟨⟨(ha6.hs.hide hla hls).trans h1, h2, h3, h4, h5.trans ha.sets, h6.trans ha.ways, by omega⟩, h1.live (hide_live hnla hnls hl12)⟩
  refine kLd_of hl12 (v := .int .i64 x.kind) rfl ?_
  simp only [kBin_eql, kSplit_b, decide_eq_true_eq, decide_eq_false_iff_not]
  have hAok := ha.ok
  refine ⟨fun _ => ?_, fun _ => ⟨fun _ => ?_, fun _ => ⟨fun _ => ?_, fun _ => ?_⟩⟩⟩
  · refine kLd_of hl12 (v := .int .i64 x.line) rfl ?_
    refine kLd_of hl12 (v := .int .i64 x.state) rfl ?_
    refine ldPd hl12 ?_
    refine Set_spec (d := x.d) ha.ok (by omega) ha6.hh (fun g7 n7 hs7 hh7 => ?_)
    have := fin _ g7 hs7 hh7 (Arr.set_ok ha.ok (by omega) _ _ _) (Arr.set_wf ha.ok ha.wf _ _ _) (Arr.set_sets A _ _ _).1 (Arr.set_sets A _ _ _).2 (Arr.set_used A _ _ _).2
    exact AO_j2 P (by omega) hN (drop_mem he) ⟨ht.t2, ht.t7, ht.t8, ht.t9, ht.t11⟩ this.1 rfl this.2
  · refine kLd_of hl12 (v := .int .i64 x.line) rfl ?_
    refine Touch_spec ha.ok (by omega) ha6.hh (fun g7 n7 hs7 hh7 => ?_)
    have := fin _ g7 hs7 hh7 (Arr.touch_ok ha.ok (by omega) _) (Arr.touch_wf ha.ok ha.wf _) (Arr.touch_sets A _).1 (Arr.touch_sets A _).2 (Arr.touch_used A _).2
    exact AO_j2 P (by omega) hN (drop_mem he) ⟨ht.t2, ht.t7, ht.t8, ht.t9, ht.t11⟩ this.1 rfl this.2
  · refine kLd_of hl12 (v := .int .i64 x.line) rfl ?_
    refine Drop_spec ha.ok ha6.hh (fun g7 n7 hs7 hh7 => ?_)
    have := fin _ g7 hs7 hh7 (Arr.drop_ok ha.ok _) (Arr.drop_wf ha.wf _) (Arr.drop_sets A _).1 (Arr.drop_sets A _).2 (by rw [Arr.drop_used]; omega)
    exact AO_j2 P (by omega) hN (drop_mem he) ⟨ht.t2, ht.t7, ht.t8, ht.t9, ht.t11⟩ this.1 rfl this.2
  · have := fin _ g6 (hide_sub g6 la ls) ha6.hh ha.ok ha.wf rfl rfl (by omega)
    exact AO_j2 P (by omega) hN (drop_mem he) ⟨ht.t2, ht.t7, ht.t8, ht.t9, ht.t11⟩ this.1 rfl this.2
end Go.Proofs.Ytncodeibkmekmaa.Gen

namespace Go.Proofs.Ytncodeibkmekmaa.Gen
open Go Go.Proofs.Ytncodeibkmekmaa.Abs Go.RowKit
variable {g : G} {n : Nat}
/-! the document's array: the same cells -/
def rowV (ls : Nat) (A : Arr) : Value := .slice (some ⟨ls, 0, none⟩) (A.sets * A.ways) (A.sets * A.ways)
theorem row_sl {A : Arr} {la ls : Nat} (hok : A.ok) (hh : ArrH g la ls A) : Sl encS 11 g (rowV ls A) A.l := by
  have := hh.row.sl (i := 0) (m := A.sets * A.ways) (c := A.sets * A.ways) encS_len (by rw [hok.2.2.2.1]; omega)
  rw [Nat.zero_mul, List.drop_zero, List.take_of_length_le (by rw [hok.2.2.2.1]; exact Nat.le_refl _)] at this
  exact this
theorem Arr.len64 {A : Arr} (hok : A.ok) : A.l.length ≤ 64 := by rw [hok.2.2.2.1]; exact Arr.small hok
theorem ldRow {A : Arr} {la ls : Nat} (hh : ArrH g la ls A) {K : Value → Prop} (k : K (rowV ls A)) : kLd g la (0 + 2) K := kLd_of hh.obj rfl k
theorem ldWays {A : Arr} {la ls : Nat} (hh : ArrH g la ls A) {K : Value → Prop} (k : K (.int .i64 A.ways)) : kLd g la (0 + 1) K := kLd_of hh.obj rfl k
theorem ldSets {A : Arr} {la ls : Nat} (hh : ArrH g la ls A) {K : Value → Prop} (k : K (.int .i64 A.sets)) : kLd g la (0 + 0) K := kLd_of hh.obj rfl k
theorem ldUsed {A : Arr} {la ls : Nat} (hh : ArrH g la ls A) {K : Value → Prop} (k : K (.int .i64 A.used)) : kLd g la (0 + 3) K := kLd_of hh.obj rfl k
theorem ArrH.keep {A : Arr} {la ls lq lt : Nat} {g' : G} (h : ArrH g lq lt A) (hs : Sub (hide g la ls) g') (h1 : lq ≠ la) (h2 : lq ≠ ls) (h3 : lt ≠ la) (h4 : lt ≠ ls) : ArrH g' lq lt A :=
  ⟨hs.live (hide_live h1 h2 h.obj), hs.live (hide_live h3 h4 h.row), h.ne⟩

def Arr.refAt (A : Arr) (line : Int) : Option Nat := A.l.findIdx? fun s => decide (s.state ≠ 0) && decide (s.line = line)
theorem refAt_eq {A : Arr} (hok : A.ok) (hw : A.wf) (line : Int) : A.refAt line = (A.at line).map (A.from line + ·) := by
  cases ha : A.at line with
  | none =>
    unfold Arr.refAt
    rw [Option.map_none, List.findIdx?_eq_none_iff]
    intro s hs
    obtain ⟨i, hi⟩ := List.getElem?_of_mem hs
    by_cases h0 : s.state = 0
    · simp [h0]
    · have := Arr.at_none hok hw ha i s hi h0
      simp [this]
  | some k =>
    obtain ⟨t, ht, ht0, htl, _⟩ := Arr.at_some hok ha
    unfold Arr.refAt
    rw [Option.map_some, List.findIdx?_eq_some_iff_getElem]
    obtain ⟨hlt, he⟩ := List.getElem?_eq_some_iff.1 ht
    refine ⟨hlt, ?_, ?_⟩
    · show (decide ((A.l[A.from line + k]).state ≠ 0) && decide ((A.l[A.from line + k]).line = line)) = true
      rw [he]; simp [ht0, htl]
    · intro j hj hp
      have hjl : j < A.l.length := by omega
      simp only [Bool.and_eq_true, decide_eq_true_eq] at hp
      have := hw.once j _ _ _ (List.getElem?_eq_getElem hjl) ht hp.1 ht0 (.inl (by rw [hp.2, htl]))
      omega
theorem refAt_spec {A : Arr} {la ls : Nat} {line : Int} (hok : A.ok) (hh : ArrH g la ls A) {K : Cont} (hK : ∀ n', K (idxV (A.refAt line)) g n') : AC bellowsref05_Array_At_id [ptr la 0, .int .i64 line] g n K := by
  refine ACalls.fold X0_mono ?_
  rw [← bellowsref05_Array_At_eq]
  simp only [bellowsref05_Array_At]
  have h64 := Arr.len64 hok
  have hsl := row_sl hok hh
  refine lfp_ind (fun m t g' n' => g' = g ∧ ∃ i : Nat, m = A.l.length - i ∧ i ≤ A.l.length ∧ t 0 = ptr la 0 ∧ t 1 = .int .i64 line ∧ t 5 = .int .i64 i ∧ (∀ s ∈ A.l.take i, (decide (s.state ≠ 0) && decide (s.line = line)) = false)) ?_
    (m := A.l.length) ⟨rfl, 0, by simp, by simp, rfl, rfl, rfl, by simp⟩
  rintro I m t g1 n1 hI ⟨rfl, i, hm, hi, t0, t1, t5, hp⟩
  simp only [bellowsref05_Array_At_l1, t0, t1, t5, kNil_p, kPtr_p]
  refine ldRow hh (hsl.len ?_)
  simp only [kBin_lss, kSplit_b, decide_eq_true_eq, decide_eq_false_iff_not]
  refine ⟨fun hlt => ?_, fun hge => ?_⟩
  · have hlt : i < A.l.length := by omega
    have he : A.l[i]? = some A.l[i] := List.getElem?_eq_getElem hlt
    generalize hx : A.l[i] = s at he
    have next : ∀ (t : Env) (n2 : Nat), t 0 = ptr la 0 → t 1 = .int .i64 line → t 5 = .int .i64 ((i + 1 : Nat) : Int) → (decide (s.state ≠ 0) && decide (s.line = line)) = false → I t g1 n2 := by
      intro t n2 t0 t1 t5 hs
      refine hI (A.l.length - (i + 1)) _ _ _ (by omega) ⟨rfl, i + 1, rfl, by omega, t0, t1, t5, ?_⟩
      intro y hy
      rw [take_add he] at hy
      rcases List.mem_append.1 hy with hy | hy
      · exact hp y hy
      · simp at hy; subst hy; exact hs
    refine ldRow hh (hsl.idx encS_len he (fun l o hat => ?_))
    simp only [kPtr_p]
    refine hat.ld (encS_0 s) ?_
    simp only [kBin_neq, kSplit_b, decide_eq_true_eq, decide_eq_false_iff_not, kBin_add]
    rw [wrapNat (by omega)]
    refine ⟨fun h0 => ?_, fun h0 => next _ _ t0 t1 rfl (by rw [decide_eq_false h0]; rfl)⟩
    refine ldRow hh (hsl.idx encS_len he (fun l o hat => ?_))
    simp only [kPtr_p]
    refine hat.ld (encS_1 s) ?_
    simp only [kBin_eql, kSplit_b, decide_eq_true_eq, decide_eq_false_iff_not]
    refine ⟨fun hl => aRet_of (Sub.refl _) ?_, fun hl => next _ _ t0 t1 rfl (by rw [decide_eq_false hl, Bool.and_false])⟩
    have : A.refAt line = some i := by
      unfold Arr.refAt
      rw [List.findIdx?_eq_some_iff_getElem]
      refine ⟨hlt, ?_, fun j hj hpj => ?_⟩
      · rw [hx]; simp [h0, hl]
      · have := hp A.l[j] (List.mem_of_getElem? (i := j) (by rw [List.getElem?_take, if_pos hj, List.getElem?_eq_getElem]))
        rw [this] at hpj; cases hpj
    have k := hK n1
    rw [this] at k
    exact k
  · have : i = A.l.length := by omega
    subst this
    rw [List.take_length] at hp
    have : A.refAt line = none := by unfold Arr.refAt; rw [List.findIdx?_eq_none_iff]; exact hp
    have k := hK n1
    rw [this] at k
    exact aRet_of (Sub.refl _) k

theorem refFirst_spec {A : Arr} {la ls : Nat} {line : Int} (hok : A.ok) (hh : ArrH g la ls A) (hl : 0 ≤ line) {K : Cont} (hK : ∀ n', K (.int .i64 (A.from line : Nat)) g n') : AC bellowsref05_Array_first_id [ptr la 0, .int .i64 line] g n K := by
  refine ACalls.fold X0_mono ?_
  rw [← bellowsref05_Array_first_eq]
  simp only [bellowsref05_Array_first, kNil_p, kPtr_p]
  refine ldSets hh (ldWays hh ?_)
  refine ref04Set_spec (by have := hok.1; omega) hl (fun n1 => ?_)
  refine ⟨rfl, ?_⟩
  have hf := Arr.from_le hok hl
  have hsm := Arr.small hok
  have hnn : 0 ≤ line % (A.sets : Int) := Int.emod_nonneg _ (by have := hok.1; omega)
  have e1 : (line % (A.sets : Int)) * (A.ways : Int) = (A.from line : Int) := by unfold Arr.from; rw [Int.natCast_mul, Int.toNat_of_nonneg hnn]
  simp only [kBin_mul]
  rw [e1, wrap64_of (by omega) (by omega)]
  exact aRet_of (Sub.refl _) (hK _)

theorem refFree_spec {A : Arr} {la ls : Nat} {line : Int} (hok : A.ok) (hh : ArrH g la ls A) (hl : 0 ≤ line) {K : Cont} (hK : ∀ n', K (idxV ((A.free line).map (A.from line + ·))) g n') : AC bellowsref05_Array_Free_id [ptr la 0, .int .i64 line] g n K := by
  refine ACalls.fold X0_mono ?_
  rw [← bellowsref05_Array_Free_eq]
  simp only [bellowsref05_Array_Free]
  refine refFirst_spec hok hh hl (fun n1 => ?_)
  have h64 := Arr.len64 hok
  have hsl := row_sl hok hh
  have hf := Arr.from_le hok hl
  have hlen := hok.2.2.2.1
  have hpl := Arr.part_len hok hl
  refine lfp_ind (fun m t g' n' => g' = g ∧ ∃ i : Nat, m = A.ways - i ∧ i ≤ A.ways ∧ t 0 = ptr la 0 ∧ t 1 = .int .i64 line ∧ t 5 = .int .i64 ((A.from line + i : Nat) : Int) ∧ (∀ s ∈ (A.part line).take i, decide (s.state = 0) = false)) ?_
    (m := A.ways) ⟨rfl, 0, by simp, by simp, rfl, rfl, rfl, by simp⟩
  rintro I m t g1 n2 hI ⟨rfl, i, hm, hi, t0, t1, t5, hp⟩
  simp only [bellowsref05_Array_Free_l1, t0, t1, t5, kNil_p, kPtr_p]
  refine ldWays hh (refFirst_spec hok hh hl (fun n3 => ⟨rfl, ?_⟩))
  simp only [kBin_add]
  rw [wrap64_of (a := (A.from line : Int) + (A.ways : Int)) (by omega) (by omega)]
  simp only [kBin_lss, kSplit_b, decide_eq_true_eq, decide_eq_false_iff_not]
  refine ⟨fun hlt => ?_, fun hge => ?_⟩
  · have hlt : i < A.ways := by omega
    have he : A.l[A.from line + i]? = some (A.slotAt line i) := Arr.slotAt_get hok hl hlt
    have hpe : (A.part line)[i]? = some (A.slotAt line i) := Arr.part_get hok hl hlt
    generalize A.slotAt line i = s at he hpe
    refine ldRow hh (hsl.idx encS_len he (fun l o hat => ?_))
    simp only [kPtr_p]
    refine hat.ld (encS_0 s) ?_
    simp only [kBin_eql, kSplit_b, decide_eq_true_eq, decide_eq_false_iff_not, kBin_add]
    refine ⟨fun h0 => aRet_of (Sub.refl _) ?_, fun h0 => ?_⟩
    · have : A.free line = some i := by
        unfold Arr.free
        rw [List.findIdx?_eq_some_iff_getElem]
        have hilt : i < (A.part line).length := by omega
        have hx : (A.part line)[i] = s := by rw [List.getElem?_eq_getElem hilt] at hpe; exact Option.some.inj hpe
        refine ⟨hilt, by rw [hx]; simpa using h0, fun j hj hpj => ?_⟩
        have := hp (A.part line)[j] (List.mem_of_getElem? (i := j) (by rw [List.getElem?_take, if_pos hj, List.getElem?_eq_getElem]))
        rw [this] at hpj; cases hpj
      have k := hK n3
      rw [this] at k
      exact k
    · rw [wrapNat (by omega)]
      refine hI (A.ways - (i + 1)) _ _ _ (by omega) ⟨rfl, i + 1, rfl, by omega, t0, t1, rfl, ?_⟩
      intro y hy
      rw [take_add hpe] at hy
      rcases List.mem_append.1 hy with hy | hy
      · exact hp y hy
      · simp at hy; subst hy; simpa using h0
  · have : i = A.ways := by omega
    subst this
    rw [List.take_of_length_le (by omega)] at hp
    have : A.free line = none := by unfold Arr.free; rw [List.findIdx?_eq_none_iff]; exact hp
    have k := hK n3
    rw [this] at k
    exact aRet_of (Sub.refl _) k

/-! the victim -/
instance (s : St) : Decidable s.rest := inferInstanceAs (Decidable (_ ∧ _))
def ltB (s : St) : Option St → Prop
  | none => True
  | some t => s.used < t.used
instance (s : St) (b : Option St) : Decidable (ltB s b) := match b with
  | none => isTrue trivial
  | some t => inferInstanceAs (Decidable (s.used < t.used))
def vicScan : List St → Option St → Option St
  | [], b => b
  | s :: l, b => if s.rest ∧ ltB s b then vicScan l (some s) else vicScan l b
def lineOf : Option St → Int
  | none => -1
  | some s => s.line
theorem vic_room : ∀ (l : List St) (b : Option St) (v last : Int), (∀ s ∈ l, s.state ≠ 0) → (∀ s ∈ l, s.rest → 0 ≤ s.line) → (match b with | none => v = -1 | some t => v = t.line ∧ last = t.used ∧ 0 ≤ v) → roomScan l v last = (false, lineOf (vicScan l b))
  | [], b, v, last, _, _, hb => by
    cases b with
    | none => simp only at hb; subst hb; rfl
    | some t => simp only at hb; rw [hb.1]; rfl
  | s :: l, b, v, last, h0, hl, hb => by
    have h0' : ∀ s ∈ l, s.state ≠ 0 := fun t ht => h0 t (by simp [ht])
    have hl' : ∀ s ∈ l, s.rest → 0 ≤ s.line := fun t ht => hl t (by simp [ht])
    unfold roomScan vicScan
    rw [if_neg (h0 s (by simp))]
    have e : (1 ≤ s.state ∧ s.state ≤ 3 ∧ (v < 0 ∨ s.used < last)) ↔ (s.rest ∧ ltB s b) := by
      unfold St.rest ltB
      cases b with
      | none => simp only at hb; subst hb; simp
      | some t => simp only at hb; obtain ⟨_, rfl, h⟩ := hb
                  simp only [and_assoc]
                  constructor
                  · rintro ⟨a, b, c | c⟩
                    · omega
                    · exact ⟨a, b, c⟩
                  · rintro ⟨a, b, c⟩; exact ⟨a, b, .inr c⟩
    by_cases hc : 1 ≤ s.state ∧ s.state ≤ 3 ∧ (v < 0 ∨ s.used < last)
    · rw [if_pos hc, if_pos (e.1 hc)]
      exact vic_room l (some s) s.line s.used h0' hl' ⟨rfl, rfl, hl s (by simp) ⟨hc.1, hc.2.1⟩⟩
    · rw [if_neg hc, if_neg (fun h => hc (e.2 h))]
      exact vic_room l b v last h0' hl' hb
theorem room_ref {A : Arr} (hw : A.wf) {line : Int} (hl : 0 ≤ line) : A.room line = if (A.free line).isSome then (true, -1) else (false, lineOf (vicScan (A.part line) none)) := by
  unfold Arr.room
  rw [if_neg (by omega)]
  cases hf : A.free line with
  | some k =>
    obtain ⟨h1, h2, _⟩ := List.findIdx?_eq_some_iff_getElem.1 hf
    exact roomScan_free _ _ _ ⟨_, List.getElem_mem h1, by simpa using h2⟩
  | none =>
    have h0 : ∀ s ∈ A.part line, s.state ≠ 0 := by
      intro s hs
      obtain ⟨i, hi, h1, h2⟩ := Arr.part_mem hs
      exact Arr.free_none hf (i - A.from line) s (by omega) (by rw [show A.from line + (i - A.from line) = i by omega]; exact hi)
    refine vic_room _ none _ _ h0 (fun s hs _ => ?_) rfl
    obtain ⟨i, hi, _, _⟩ := Arr.part_mem hs
    exact (hw.place i s hi (h0 s hs)).1
theorem rest_spec {x : Int} {K : Cont} (hK : ∀ n', K (.bool (decide (1 ≤ x ∧ x ≤ 3))) g n') : AC bellowsref05_rest_id [.int .i64 x] g n K := by
  refine ACalls.fold X0_mono ?_
  rw [← bellowsref05_rest_eq]
  simp only [bellowsref05_rest, kBin_geq, kBin_leq, kSplit_b, decide_eq_true_eq, decide_eq_false_iff_not]
  refine ⟨fun h => aRet_of (Sub.refl _) ?_, fun h => aRet_of (Sub.refl _) ?_⟩
  · have k := hK n
    rw [show decide (1 ≤ x ∧ x ≤ 3) = decide (x ≤ 3) from by rw [decide_eq_decide]; omega] at k
    exact k
  · have k := hK n
    rw [decide_eq_false (by omega)] at k
    exact k
theorem refVictim_spec {A : Arr} {la ls : Nat} {line : Int} (hok : A.ok) (hh : ArrH g la ls A) (hl : 0 ≤ line) {K : Cont} (hK : ∀ n', K (.int .i64 (lineOf (vicScan (A.part line) none))) g n') : AC bellowsref05_Array_Victim_id [ptr la 0, .int .i64 line] g n K := by
  refine ACalls.fold X0_mono ?_
  rw [← bellowsref05_Array_Victim_eq]
  simp only [bellowsref05_Array_Victim]
  refine refFirst_spec hok hh hl (fun n1 => ?_)
  have h64 := Arr.len64 hok
  have hsl := row_sl hok hh
  have hf := Arr.from_le hok hl
  have hlen := hok.2.2.2.1
  have hpl := Arr.part_len hok hl
  refine lfp_ind (fun m t g' n' => g' = g ∧ ∃ (i : Nat) (b : Option St) (j : Int), m = A.ways - i ∧ i ≤ A.ways ∧ t 0 = ptr la 0 ∧ t 1 = .int .i64 line ∧ t 6 = .int .i64 ((A.from line + i : Nat) : Int) ∧ t 5 = .int .i64 j ∧
      (match b with | none => j = -1 | some s => ∃ q : Nat, j = q ∧ A.l[q]? = some s) ∧ vicScan ((A.part line).drop i) b = vicScan (A.part line) none) ?_
    (m := A.ways) ⟨rfl, 0, none, -1, by simp, by simp, rfl, rfl, rfl, rfl, rfl, by simp⟩
  rintro I m t g1 n2 hI ⟨rfl, i, b, j, hm, hi, t0, t1, t6, t5, hb, hsc⟩
  simp only [bellowsref05_Array_Victim_l1, t0, t1, t5, t6, kNil_p, kPtr_p]
  refine ldWays hh (refFirst_spec hok hh hl (fun n3 => ⟨rfl, ?_⟩))
  simp only [kBin_add]
  rw [wrap64_of (a := (A.from line : Int) + (A.ways : Int)) (by omega) (by omega)]
  simp only [kBin_lss, kSplit_b, decide_eq_true_eq, decide_eq_false_iff_not]
  refine ⟨fun hlt => ?_, fun hge => ?_⟩
  · have hlt : i < A.ways := by omega
    have he : A.l[A.from line + i]? = some (A.slotAt line i) := Arr.slotAt_get hok hl hlt
    have hpe : (A.part line)[i]? = some (A.slotAt line i) := Arr.part_get hok hl hlt
    generalize A.slotAt line i = s at he hpe
    rw [drop_get hpe] at hsc
    have j2 : ∀ (t : Env) (n4 : Nat) (b' : Option St) (j' : Int), t 0 = ptr la 0 → t 1 = .int .i64 line → t 6 = .int .i64 ((A.from line + i : Nat) : Int) → t 5 = .int .i64 j' →
        (match b' with | none => j' = -1 | some s => ∃ q : Nat, j' = q ∧ A.l[q]? = some s) → vicScan ((A.part line).drop (i + 1)) b' = vicScan (A.part line) none → bellowsref05_Array_Victim_j2 AC K I t g1 n4 := by
      intro t n4 b' j' t0 t1 t6 t5 hb' hsc'
      simp only [bellowsref05_Array_Victim_j2, t6, kBin_add]
      rw [wrapNat (by omega)]
      exact hI (A.ways - (i + 1)) _ _ _ (by omega) ⟨rfl, i + 1, b', j', rfl, by omega, t0, t1, rfl, t5, hb', hsc'⟩
    refine ldRow hh (hsl.idx encS_len he (fun l o hat => ?_))
    simp only [kPtr_p]
    refine hat.ld (encS_0 s) ?_
    refine rest_spec (fun n4 => ?_)
    simp only [vicScan] at hsc
    simp only [kSplit_b, decide_eq_true_eq, decide_eq_false_iff_not]
    refine ⟨fun hr => ?_, fun hr => ?_⟩
    · cases b with
      | none =>
        simp only at hb
        subst hb
        rw [if_pos ⟨hr, trivial⟩] at hsc
        refine ⟨fun _ => j2 _ _ (some s) _ t0 t1 t6 rfl ⟨_, rfl, he⟩ hsc, fun h => absurd h (by decide)⟩
      | some u =>
        obtain ⟨q, rfl, hq⟩ := hb
        refine ⟨fun h => absurd h (by omega), fun _ => ?_⟩
        refine ldRow hh (hsl.idx encS_len he (fun l o hat => ?_))
        simp only [kPtr_p]
        refine hat.ld (encS_10 s) ?_
        refine ldRow hh (hsl.idx encS_len hq (fun l o hat => ?_))
        simp only [kPtr_p]
        refine hat.ld (encS_10 u) ?_
        simp only [kBin_lss, kSplit_b, decide_eq_true_eq, decide_eq_false_iff_not]
        refine ⟨fun hu => ?_, fun hu => ?_⟩
        · rw [if_pos ⟨hr, hu⟩] at hsc
          exact j2 _ _ (some s) _ t0 t1 t6 rfl ⟨_, rfl, he⟩ hsc
        · rw [if_neg (fun h => hu h.2)] at hsc
          exact j2 _ _ (some u) _ t0 t1 t6 t5 ⟨_, rfl, hq⟩ hsc
    · rw [if_neg (fun h => hr h.1)] at hsc
      exact j2 _ _ b _ t0 t1 t6 t5 hb hsc
  · have : i = A.ways := by omega
    subst this
    rw [List.drop_of_length_le (by omega)] at hsc
    simp only [vicScan] at hsc
    rw [← hsc] at hK
    simp only [bellowsref05_Array_Victim_j3]
    show kBin .int .lss (t 5) _ _
    rw [t5]
    simp only [kBin_lss]
    cases b with
    | none =>
      simp only at hb
      subst hb
      exact kSplit_t rfl (aRet_of (Sub.refl _) (hK _))
    | some u =>
      obtain ⟨q, rfl, hq⟩ := hb
      refine kSplit_f (by simp) ?_
      show kNil (t 0) _
      rw [t0]
      simp only [kNil_p, kPtr_p]
      refine ldRow hh ?_
      show kIndexAddr _ (t 5) _ _
      rw [t5]
      refine hsl.idx encS_len hq (fun l o hat => ?_)
      simp only [kPtr_p]
      refine hat.ld (encS_1 u) ?_
      exact aRet_of (Sub.refl _) (hK _)
end Go.Proofs.Ytncodeibkmekmaa.Gen

namespace Go.Proofs.Ytncodeibkmekmaa.Gen
open Go Go.Proofs.Ytncodeibkmekmaa.Abs Go.RowKit
variable {g : G} {n : Nat}
theorem ArrH.stAt {A : Arr} {la ls : Nat} {k : Nat} {s : St} {K : G → Prop} (hh : ArrH g la ls A) (hk : k < A.l.length)
    (kk : ∀ g', Sub (hide g la ls) g' → ArrH g' la ls { A with l := A.l.set k s } → K g') : kStN g ls (0 + k * 11) (encS s) K := by
  rw [Nat.zero_add]
  refine hh.row.stN encS_len encS_cell rfl hk (fun hb => kk _ ?_ ⟨?_, hb, hh.ne⟩)
  · exact (hide_sub g la ls).upd_fresh _ (hide_ls _ _ _)
  · rw [upd_ne _ _ hh.ne]; exact hh.obj
theorem stUsed {A : Arr} {la ls : Nat} {u : Int} {K : G → Prop} (hh : ArrH g la ls A) (k : K (upd g la (some (.cells (ArrC { A with used := u } ls) .exact)))) : kSt g la (0 + 3) (.int .i64 u) K :=
  kSt_of hh.obj rfl (by simp [ArrC]) rfl k
theorem ArrH.withUsed {A : Arr} {la ls : Nat} {u : Int} (hh : ArrH g la ls A) : ArrH (upd g la (some (.cells (ArrC { A with used := u } ls) .exact))) la ls { A with used := u } :=
  ⟨upd_same _ _ _, by show upd g la _ ls = _; rw [upd_ne _ _ (fun e => hh.ne e.symm)]; exact hh.row, hh.ne⟩

theorem refSet_spec {A : Arr} {la ls : Nat} {line state : Int} {d : Ln} (hok : A.ok) (hw : A.wf) (hu : A.used < 100000) (hh : ArrH g la ls A) {K : Cont}
    (hK : ∀ g' n', Sub (hide g la ls) g' → ArrH g' la ls (A.set line state d).2 → K (.int .i64 (A.set line state d).1) g' n') :
    AC bellowsref05_Array_Set_id [ptr la 0, .int .i64 line, .int .i64 state, .agg (encL d).toArray] g n K := by
  refine ACalls.fold X0_mono ?_
  rw [← bellowsref05_Array_Set_eq]
  simp only [bellowsref05_Array_Set, kAgg_a]
  intro hn
  have hs := (Sub.refl g).new hn (some (.cells (encL d) .exact))
  have hl7 := upd_same g n (some (.cells (encL d) .exact))
  have hla := ne_of_live hh.obj hn
  generalize upd g n (some (.cells (encL d) .exact)) = g1 at *
  have hh1 := hh.mono hs
  have err : ∀ m, (line < 0 ∨ state < 1 ∨ 9 < state) → aRet K (.int .i64 1) g1 m := by
    intro m h
    have e : A.set line state d = (1, A) := by unfold Arr.set; rw [if_pos h]
    rw [e] at hK
    exact aRet_of (Sub.refl _) (hK _ _ ((hide_sub g la ls).trans hs) hh1)
  simp only [kBin_lss, kBin_gtr, kSplit_b, decide_eq_true_eq, decide_eq_false_iff_not]
  refine ⟨fun h => err _ (.inl h), fun h1 => ⟨fun h => err _ (.inr (.inl h)), fun h2 => ⟨fun h => err _ (.inr (.inr h)), fun h3 => ?_⟩⟩⟩
  have hl : 0 ≤ line := by omega
  have hne : ¬ (line < 0 ∨ state < 1 ∨ 9 < state) := by omega
  have h64 := Arr.len64 hok
  have j1 : ∀ (t : Env) (m : Nat), t 0 = ptr la 0 → t 1 = .int .i64 line → t 2 = .int .i64 state → t 7 = ptr n 0 → t 9 = idxV (((A.at line).or (A.free line)).map (A.from line + ·)) → bellowsref05_Array_Set_j1 AC K t g1 m := by
    intro t m t0 t1 t2 t7 t9
    simp only [bellowsref05_Array_Set_j1, t0, t1, t2, t7, t9]
    cases ho : (A.at line).or (A.free line) with
    | none =>
      have e : A.set line state d = (13, A) := by unfold Arr.set; rw [if_neg hne, ho]
      rw [e] at hK
      simp only [Option.map_none, idxV, kBin_lss]
      exact kSplit_t rfl (aRet_of (Sub.refl _) (hK _ _ ((hide_sub g la ls).trans hs) hh1))
    | some k =>
      have e : A.set line state d = (0, A.tick.put line k ⟨state, line, d, A.used + 1⟩) := by unfold Arr.set; rw [if_neg hne, ho]
      rw [e] at hK
      have hk : k < A.ways := by
        cases ha : A.at line with
        | none => rw [ha] at ho; exact Arr.free_lt hok hl (by simpa using ho)
        | some k' => rw [ha] at ho; simp at ho; subst ho; exact (Arr.at_lt hok ha).2
      have hlen : A.from line + k < A.l.length := by
        have := Arr.from_le hok hl
        rw [hok.2.2.2.1]; omega
      simp only [Option.map_some, idxV, kBin_lss]
      refine kSplit_f (by rw [decide_eq_false_iff_not]; omega) ?_
      have hu0 := hok.2.2.2.2.1
      simp only [kNil_p, kPtr_p]
      refine ldUsed hh1 ?_
      simp only [kBin_add]
      rw [wrap64_of (by omega) (by omega)]
      refine stUsed hh1 ?_
      have hh2 := hh1.withUsed (u := A.used + 1)
      refine ldRow hh2 ?_
      refine ldL (by rw [upd_ne _ _ hla]; exact hl7) ?_
      refine ldUsed hh2 (kFill_slot ?_)
      refine kIndexAddr_s (by omega) (by rw [show (A.sets * A.ways : Nat) = A.l.length from hok.2.2.2.1.symm]; omega) ?_
      simp only [kPtr_p, kAgg_a, Int.toNat_natCast]
      refine ⟨encS_len _, ArrH.stAt hh2 hlen (fun g' hs' hh' => aRet_of (Sub.refl _) (hK _ _ ?_ hh'))⟩
      rw [hide_upd] at hs'
      exact (hide_mono hs).trans hs'
  refine refAt_spec hok hh1 (fun n2 => ?_)
  rw [refAt_eq hok hw]
  cases ha : A.at line with
  | none =>
    simp only [Option.map_none, idxV, kBin_lss]
    refine kSplit_t rfl ?_
    refine refFree_spec hok hh1 hl (fun n3 => ?_)
    exact j1 _ _ rfl rfl rfl rfl (by rw [ha]; rfl)
  | some k =>
    simp only [Option.map_some, idxV, kBin_lss]
    refine kSplit_f (by rw [decide_eq_false_iff_not]; omega) ?_
    exact j1 _ _ rfl rfl rfl rfl (by rw [ha]; rfl)

theorem refTouch_spec {A : Arr} {la ls : Nat} {line : Int} (hok : A.ok) (hw : A.wf) (hu : A.used < 100000) (hh : ArrH g la ls A) {K : Cont}
    (hK : ∀ g' n', Sub (hide g la ls) g' → ArrH g' la ls (A.touch line) → K (.tuple #[]) g' n') : AC bellowsref05_Array_Touch_id [ptr la 0, .int .i64 line] g n K := by
  refine ACalls.fold X0_mono ?_
  rw [← bellowsref05_Array_Touch_eq]
  simp only [bellowsref05_Array_Touch]
  refine refAt_spec hok hh (fun n1 => ?_)
  rw [refAt_eq hok hw]
  cases ha : A.at line with
  | none =>
    have e : A.touch line = A := by unfold Arr.touch; rw [ha]
    rw [e] at hK
    simp only [Option.map_none, idxV, kBin_geq]
    exact kSplit_f rfl (aRet_of (Sub.refl _) (hK _ _ (hide_sub g la ls) hh))
  | some k =>
    have e : A.touch line = A.tick.put line k { A.slotAt line k with used := A.used + 1 } := by unfold Arr.touch; rw [ha]
    rw [e] at hK
    obtain ⟨hl, hk⟩ := Arr.at_lt hok ha
    have h64 := Arr.len64 hok
    have hlen : A.from line + k < A.l.length := by
      have := Arr.from_le hok hl
      rw [hok.2.2.2.1]; omega
    have hu0 := hok.2.2.2.2.1
    simp only [Option.map_some, idxV, kBin_geq]
    refine kSplit_t (by rw [decide_eq_true_eq]; omega) ?_
    simp only [kNil_p, kPtr_p]
    refine ldUsed hh ?_
    simp only [kBin_add]
    rw [wrap64_of (by omega) (by omega)]
    refine stUsed hh ?_
    have hh2 := hh.withUsed (u := A.used + 1)
    refine ldRow hh2 (ldUsed hh2 ?_)
    refine kIndexAddr_s (by omega) (by rw [show (A.sets * A.ways : Nat) = A.l.length from hok.2.2.2.1.symm]; omega) ?_
    simp only [kPtr_p, Int.toNat_natCast, Nat.zero_add]
    have hfl : ((A.l.map encS).flatten).length = A.l.length * 11 := flat_len encS 11 encS_len _
    refine kSt_of hh2.row rfl ?_ rfl ?_
    · show _ < ((A.l.map encS).flatten).length
      rw [hfl]; omega
    · have hx : A.l[A.from line + k]? = some (A.slotAt line k) := Arr.slotAt_get hok hl hk
      have hy : encS { A.slotAt line k with used := A.used + 1 } = (encS (A.slotAt line k)).set 10 (.int .i64 (A.used + 1)) := by
        unfold encS
        rw [List.set_append, if_neg (by simp [encL_len])]
        simp [encL_len]
      have := flat_set1 (z := 11) encS_len hx (by decide) hy
      show aRet K _ (upd _ ls (some (.cells (((A.l.map encS).flatten).set ((A.from line + k) * 11 + 10) (.int .i64 (A.used + 1))) .exact))) n1
      rw [this]
      refine aRet_of (Sub.refl _) (hK _ _ ?_ ⟨?_, upd_same _ _ _, hh.ne⟩)
      · have := (hide_sub (upd g la (some (.cells (ArrC { A with used := A.used + 1 } ls) .exact))) la ls).upd_fresh (some (.cells ((A.l.set (A.from line + k) { A.slotAt line k with used := A.used + 1 }).map encS).flatten .exact)) (hide_ls _ _ _)
        rw [hide_upd] at this
        exact this
      · rw [upd_ne _ _ hh.ne]; exact hh2.obj

theorem refDrop_spec {A : Arr} {la ls : Nat} {line : Int} (hok : A.ok) (hw : A.wf) (hh : ArrH g la ls A) {K : Cont}
    (hK : ∀ g' n', Sub (hide g la ls) g' → ArrH g' la ls (A.drop line) → K (.bool (A.at line).isSome) g' n') : AC bellowsref05_Array_Drop_id [ptr la 0, .int .i64 line] g n K := by
  refine ACalls.fold X0_mono ?_
  rw [← bellowsref05_Array_Drop_eq]
  simp only [bellowsref05_Array_Drop]
  refine refAt_spec hok hh (fun n1 => ?_)
  rw [refAt_eq hok hw]
  cases ha : A.at line with
  | none =>
    have e : A.drop line = A := by unfold Arr.drop; rw [ha]
    rw [e, ha] at hK
    simp only [Option.map_none, idxV, kBin_lss]
    exact kSplit_t rfl (aRet_of (Sub.refl _) (hK _ _ (hide_sub g la ls) hh))
  | some k =>
    have e : A.drop line = A.put line k zeroS := by unfold Arr.drop; rw [ha]
    rw [e, ha] at hK
    obtain ⟨hl, hk⟩ := Arr.at_lt hok ha
    have h64 := Arr.len64 hok
    have hlen : A.from line + k < A.l.length := by
      have := Arr.from_le hok hl
      rw [hok.2.2.2.1]; omega
    simp only [Option.map_some, idxV, kBin_lss]
    refine kSplit_f (by rw [decide_eq_false_iff_not]; omega) ?_
    simp only [kNil_p, kPtr_p]
    refine ldRow hh ?_
    simp only [kFill_nil]
    refine kIndexAddr_s (by omega) (by rw [show (A.sets * A.ways : Nat) = A.l.length from hok.2.2.2.1.symm]; omega) ?_
    simp only [kPtr_p, kAgg_a, Int.toNat_natCast]
    exact ⟨rfl, ArrH.stAt (s := zeroS) hh hlen (fun g' hs' hh' => aRet_of (Sub.refl _) (hK _ _ hs' hh'))⟩

theorem kFill_S {s : St} {K : List Value → Prop} (k : K (encS s)) : kFill (reps 1 (encS zeroS)) [(0, some 11, .agg (encS s).toArray)] K := by
  refine ⟨encS_len s, by rw [show (reps 1 (encS zeroS)).length = 11 from rfl]; decide, ?_⟩
  have : splice (reps 1 (encS zeroS)) 0 (encS s) = encS s := splice_all (by rw [encS_len]; rfl)
  rw [this]; exact k
theorem refSlots_spec {A : Arr} {la ls : Nat} (hok : A.ok) (hh : ArrH g la ls A) {K : Cont}
    (hK : ∀ v' g' n', Sub g g' → Sl encS 11 g' v' A.slots → K v' g' n') : AC bellowsref05_Array_Slots_id [ptr la 0] g n K := by
  refine ACalls.fold X0_mono ?_
  rw [← bellowsref05_Array_Slots_eq]
  simp only [bellowsref05_Array_Slots]
  have h64 := Arr.len64 hok
  refine lfp_ind (fun m t g' n' => Sub g g' ∧ ∃ i : Nat, m = A.l.length - i ∧ i ≤ A.l.length ∧ t 0 = ptr la 0 ∧ t 4 = .int .i64 i ∧ OwnS encS 11 g g' (t 3) ((A.l.take i).filter fun s => !decide (s.state = 0))) ?_
    (m := A.l.length) ⟨Sub.refl _, 0, by simp, by simp, rfl, rfl, by show OwnS encS 11 g g (.slice none 0 0) ((A.l.take 0).filter _); rw [List.take_zero]; exact OwnS.nil⟩
  rintro I m t g1 n1 hI ⟨hs1, i, hm, hi, t0, t4, hown⟩
  have hh1 := hh.mono hs1
  have hsl := row_sl hok hh1
  simp only [bellowsref05_Array_Slots_l1, t0, t4, kNil_p, kPtr_p]
  refine ldRow hh1 (hsl.len ?_)
  simp only [kBin_lss, kSplit_b, decide_eq_true_eq, decide_eq_false_iff_not]
  refine ⟨fun hlt => ?_, fun hge => ?_⟩
  · have hlt : i < A.l.length := by omega
    have he : A.l[i]? = some A.l[i] := List.getElem?_eq_getElem hlt
    generalize A.l[i] = s at he
    have hfl : ((A.l.take i).filter fun s => !decide (s.state = 0)).length ≤ 64 := by
      have := List.length_filter_le (fun s : St => !decide (s.state = 0)) (A.l.take i)
      rw [List.length_take] at this; omega
    have j2 : ∀ (t : Env) (g2 : G) (n2 : Nat), Sub g g2 → t 0 = ptr la 0 → t 4 = .int .i64 i → OwnS encS 11 g g2 (t 3) ((A.l.take (i + 1)).filter fun s => !decide (s.state = 0)) → bellowsref05_Array_Slots_j2 AC K I t g2 n2 := by
      intro t g2 n2 hs2 t0 t4 hown
      simp only [bellowsref05_Array_Slots_j2, t4, kBin_add]
      rw [wrapNat (by omega)]
      exact hI (A.l.length - (i + 1)) _ _ _ (by omega) ⟨hs2, i + 1, rfl, by omega, t0, rfl, hown⟩
    refine ldRow hh1 (hsl.idx encS_len he (fun l o hat => ?_))
    simp only [kPtr_p]
    refine hat.ld (encS_0 s) ?_
    simp only [kBin_neq, kSplit_b, decide_eq_true_eq, decide_eq_false_iff_not]
    refine ⟨fun h0 => ?_, fun h0 => j2 _ _ _ hs1 t0 t4 ?_⟩
    · refine ldRow hh1 (hsl.idx encS_len he (fun l o hat => ?_))
      simp only [kPtr_p]
      refine hat.ldN (encS_len s).symm (kFill_S ?_)
      intro hn
      have hs2 := (Sub.refl g1).new hn (some (.cells (encS s) .exact))
      refine (hown.mono hs2).append (hs1.trans hs2) (Sl.one (x := s) (encS_len _) (upd_same _ _ _)) encS_cell (by decide) (by rw [List.length_singleton]; omega) (by rw [List.length_singleton]; omega) (fun v' g' n' hs' ho' _ _ => ?_)
      refine j2 _ _ _ hs' t0 t4 ?_
      rw [take_add he, List.filter_append]
      have : List.filter (fun s : St => !decide (s.state = 0)) [s] = [s] := by simp [h0]
      rw [this]; exact ho'
    · rw [take_add he, List.filter_append]
      have : List.filter (fun s : St => !decide (s.state = 0)) [s] = [] := by
        have : s.state = 0 := by omega
        simp [this]
      rw [this, List.append_nil]; exact hown
  · have : i = A.l.length := by omega
    subst this
    rw [List.take_length] at hown
    exact aRet_of (Sub.refl _) (hK _ _ _ hs1 hown.sl)

theorem refNew_spec {s w : Int} {K : Cont} (hbad : ¬ goodA s w → ∀ n', K (.tuple #[.pointer none, .int .i64 1]) g n')
    (hK : goodA s w → ∀ la ls g' n', Sub g g' → g la = none → g ls = none → ArrH g' la ls (arr0 s.toNat w.toNat) → K (.tuple #[ptr la 0, .int .i64 0]) g' n') : AC bellowsref05_New_id [.int .i64 s, .int .i64 w] g n K := by
  refine ACalls.fold X0_mono ?_
  rw [← bellowsref05_New_eq]
  show array_New AC _ _ g n K
  exact New_body hbad hK

theorem neqL (a b : Ln) (K : Value → Prop) (h : K (.bool (!decide (a = b)))) : kBin (.agg [.i, .i, .i, .i, .i, .i, .i, .i]) .neq (.agg (encL a).toArray) (.agg (encL b).toArray) K := by
  have := eqL a b (fun v => match v with | .bool r => K (.bool (!r)) | _ => False) h
  revert this
  show (match leavesEq _ _ _ with | some r => kCmp .eql r _ | none => False) → (match leavesEq _ _ _ with | some r => kCmp .neq r K | none => False)
  generalize leavesEq [.i, .i, .i, .i, .i, .i, .i, .i] (encL a).toArray.toList (encL b).toArray.toList = o
  intro h
  cases o with
  | none => exact h.elim
  | some r => exact h
theorem SameS_spec {v1 v2 : Value} {xs : List St} (h1 : Sl encS 11 g v1 xs) (h2 : Sl encS 11 g v2 xs) (hlen : xs.length ≤ 64) {K : Cont} (hK : ∀ n', K (.bool true) g n') : AC bellowslaw05_Same_id [v1, v2] g n K := by
  refine ACalls.fold X0_mono ?_
  rw [← bellowslaw05_Same_eq]
  simp only [bellowslaw05_Same]
  refine h1.len (h2.len ?_)
  simp only [kBin_neq]
  refine kSplit_f (by simp) ?_
  refine lfp_ind (fun m t g' n' => g' = g ∧ ∃ i : Nat, m = xs.length - i ∧ i ≤ xs.length ∧ t 0 = v1 ∧ t 1 = v2 ∧ t 5 = .int .i64 i) ?_ (m := xs.length) ⟨rfl, 0, by simp, by simp, rfl, rfl, rfl⟩
  rintro I m t g1 n1 hI ⟨rfl, i, hm, hi, t0, t1, t5⟩
  simp only [bellowslaw05_Same_l1, t0, t1, t5]
  refine h1.len ?_
  simp only [kBin_lss, kSplit_b, decide_eq_true_eq, decide_eq_false_iff_not]
  refine ⟨fun hlt => ?_, fun hge => aRet_of (Sub.refl _) (hK _)⟩
  have hlt : i < xs.length := by omega
  have he : xs[i]? = some xs[i] := List.getElem?_eq_getElem hlt
  generalize xs[i] = s at he
  have ld2 : ∀ {l o : Nat} {K : List Value → Prop}, At g1 l o (encS s) → K (encL s.data) → kLdN g1 l (o + 2) 8 K := by
    rintro l o K ⟨bs, bk, e1, e2, e3⟩ k
    rw [encS_len] at e2 e3
    refine kLdN_of e1 (by omega) ?_
    have : (bs.drop (o + 2)).take 8 = encL s.data := by
      rw [← encS_data, ← e3, List.drop_take, List.take_take, List.drop_drop]
      rfl
    rw [this]; exact k
  refine h1.idx encS_len he (fun l o hat => ?_)
  simp only [kPtr_p]
  refine hat.ld (encS_0 s) ?_
  refine h2.idx encS_len he (fun l o hat => ?_)
  simp only [kPtr_p]
  refine hat.ld (encS_0 s) ?_
  simp only [kBin_neq]
  refine kSplit_f (by simp) ?_
  refine h1.idx encS_len he (fun l o hat => ?_)
  simp only [kPtr_p]
  refine hat.ld (encS_1 s) ?_
  refine h2.idx encS_len he (fun l o hat => ?_)
  simp only [kPtr_p]
  refine hat.ld (encS_1 s) ?_
  simp only [kBin_neq]
  refine kSplit_f (by simp) ?_
  refine h1.idx encS_len he (fun l o hat => ?_)
  simp only [kPtr_p]
  refine ld2 hat ?_
  refine h2.idx encS_len he (fun l o hat => ?_)
  simp only [kPtr_p]
  refine ld2 hat (neqL _ _ _ ?_)
  refine kSplit_f (by simp) ?_
  refine h1.idx encS_len he (fun l o hat => ?_)
  simp only [kPtr_p]
  refine hat.ld (encS_10 s) ?_
  refine h2.idx encS_len he (fun l o hat => ?_)
  simp only [kPtr_p]
  refine hat.ld (encS_10 s) ?_
  simp only [kBin_neq, kBin_add]
  refine kSplit_f (by simp) ?_
  rw [wrapNat (by omega)]
  exact hI (xs.length - (i + 1)) _ _ _ (by omega) ⟨rfl, i + 1, rfl, by omega, t0, t1, rfl⟩
end Go.Proofs.Ytncodeibkmekmaa.Gen

namespace Go.Proofs.Ytncodeibkmekmaa.Gen
open Go Go.Proofs.Ytncodeibkmekmaa.Abs Go.RowKit
variable {g : G} {n : Nat}
section
variable {a2 : Value} {xs : List Sp} {la ls lq lt : Nat} {K : Cont} {g0 : G} {i : Nat} {I : ECont}
structure AP (g0 : G) (a2 : Value) (xs : List Sp) (la ls lq lt : Nat) (K : Cont) : Prop where
  hx : ∀ x ∈ xs, -9223372036854775808 ≤ x.line ∧ x.line ≤ 9223372036854775807
  hxl : xs.length ≤ 200
  h1 : Sl encP 11 g0 a2 xs
  hla : g0 la = none
  hls : g0 ls = none
  hlq : g0 lq = none
  hlt : g0 lt = none
  n1 : lq ≠ la
  n2 : lq ≠ ls
  n3 : lt ≠ la
  n4 : lt ≠ ls
  hK : ∀ n', K (.bool true) g0 n'
structure APt (a2 : Value) (la lq i : Nat) (t : Env) : Prop where
  t2 : t 2 = a2
  t7 : t 7 = ptr la 0
  t9 : t 9 = ptr lq 0
  t11 : t 11 = .int .i64 i
structure APa (g0 : G) (la ls lq lt i : Nat) (A : Arr) (g : G) : Prop where
  hs : Sub g0 g
  ha : ArrH g la ls A
  hq : ArrH g lq lt A
  ok : A.ok
  wf : A.wf
  used : A.used ≤ i
theorem APa.mono {A : Arr} {g' : G} (h : APa g0 la ls lq lt i A g) (hs : Sub g g') : APa g0 la ls lq lt i A g' := ⟨h.hs.trans hs, h.ha.mono hs, h.hq.mono hs, h.ok, h.wf, h.used⟩
def NextP (g0 : G) (a2 : Value) (la ls lq lt i : Nat) (I : ECont) : Prop := ∀ (t : Env) (g : G) (n : Nat) (A : Arr), APt a2 la lq (i + 1) t → APa g0 la ls lq lt (i + 1) A g → I t g n
theorem slots_len {A : Arr} (hok : A.ok) : A.slots.length ≤ 64 := by
  have := List.length_filter_le (fun s : St => !decide (s.state = 0)) A.l
  have := Arr.len64 hok
  unfold Arr.slots; omega
theorem AP_j2 (P : AP g0 a2 xs la ls lq lt K) (hi : i < 1000) (hN : NextP g0 a2 la ls lq lt i I) {t : Env} {A : Arr} (ht : APt a2 la lq i t) (ha : APa g0 la ls lq lt (i + 1) A g) : bellowslaw05_ArrayPlays_j2 AC K I t g n := by
  simp only [bellowslaw05_ArrayPlays_j2, ht.t7, ht.t9]
  refine Slots_spec ha.ok ha.ha (fun v1 g1 n1 hs1 h1 => ?_)
  have ha1 := ha.mono hs1
  refine refSlots_spec ha1.ok ha1.hq (fun v2 g2 n2 hs2 h2 => ?_)
  refine SameS_spec (h1.mono hs2) h2 (slots_len ha.ok) (fun n3 => ?_)
  simp only [kUn_not]
  refine kSplit_f rfl ?_
  simp only [bellowslaw05_ArrayPlays_j3]
  show kBin .int .add (t 11) _ _
  rw [ht.t11]
  simp only [kBin_add]
  rw [wrapNat (by omega)]
  exact hN _ _ _ A ⟨ht.t2, ht.t7, ht.t9, rfl⟩ (ha1.mono hs2)
/-- behind an operation on the one and on the other -/
theorem APa.both (P : AP g0 a2 xs la ls lq lt K) {A A' : Arr} {g1 g2 : G} (ha : APa g0 la ls lq lt i A g) (h1 : Sub (hide g la ls) g1) (ha1 : ArrH g1 la ls A') (h2 : Sub (hide g1 lq lt) g2) (hq2 : ArrH g2 lq lt A')
    (ok : A'.ok) (wf : A'.wf) (hu : A'.used ≤ A.used + 1) : APa g0 la ls lq lt (i + 1) A' g2 := by
  have := ha.used
  exact ⟨(((ha.hs.hide P.hla P.hls).trans h1).hide P.hlq P.hlt).trans h2, ha1.keep h2 (fun e => P.n1 e.symm) (fun e => P.n3 e.symm) (fun e => P.n2 e.symm) (fun e => P.n4 e.symm), hq2, ok, wf, by omega⟩
theorem APa.qkeep (P : AP g0 a2 xs la ls lq lt K) {A : Arr} {g1 : G} (ha : APa g0 la ls lq lt i A g) (h1 : Sub (hide g la ls) g1) : ArrH g1 lq lt A := ha.hq.keep h1 P.n1 P.n2 P.n3 P.n4
theorem AP_j4 (P : AP g0 a2 xs la ls lq lt K) (hi : i < 1000) (hN : NextP g0 a2 la ls lq lt i I) {t : Env} {A : Arr} {l12 : Nat} {x : Sp} (ht : APt a2 la lq i t) (ha : APa g0 la ls lq lt (i + 1) A g)
    (h12 : t 12 = ptr l12 0) (hl12 : g l12 = some (.cells (encP x) .exact)) (h16 : t 16 = .bool (A.room x.line).1) (h17 : t 17 = .int .i64 (A.room x.line).2) (h18 : t 18 = .int .i64 (A.room x.line).2) : bellowslaw05_ArrayPlays_j4 AC K I t g n := by
  simp only [bellowslaw05_ArrayPlays_j4, h12, h16, h17, h18, ht.t9, kPtr_p]
  refine kLd_of hl12 (v := .int .i64 x.line) rfl ?_
  simp only [kBin_geq, kSplit_b, decide_eq_true_eq, decide_eq_false_iff_not]
  refine ⟨fun hl => ?_, fun hl => ?_⟩
  · refine kLd_of hl12 (v := .int .i64 x.line) rfl ?_
    refine refFree_spec ha.ok ha.hq hl (fun n2 => ?_)
    have e : (A.room x.line).1 = (A.free x.line).isSome := by
      rw [room_ref ha.wf hl]
      cases A.free x.line <;> rfl
    rw [e]
    have e2 : ∀ {K' : Value → Prop}, K' (.bool (A.free x.line).isSome) → kBin .int .geq (idxV ((A.free x.line).map (A.from x.line + ·))) (.int .i64 0) K' := by
      intro K' k
      cases hf : A.free x.line with
      | none => rw [hf] at k; exact ⟨rfl, k⟩
      | some q =>
        rw [hf] at k
        simp only [Option.map_some, idxV, kBin_geq]
        rw [decide_eq_true (by omega)]; exact k
    refine e2 ?_
    simp only [kBin_bneq, kBin_neq]
    refine kSplit_f (by simp) (kSplit_f (by simp) ?_)
    exact AP_j2 P hi hN ⟨ht.t2, ht.t7, ht.t9, ht.t11⟩ ha
  · have e : (A.room x.line) = (false, -1) := by unfold Arr.room; rw [if_pos (by omega)]
    rw [e]
    simp only [kBin_bneq, kBin_neq]
    refine kSplit_f rfl (kSplit_f (by simp) ?_)
    exact AP_j2 P hi hN ⟨ht.t2, ht.t7, ht.t9, ht.t11⟩ ha
theorem eqS0 {op : BinOp} {r : Bool} {K : Value → Prop} (h : K (.bool r)) (hop : (op = .eql ∧ r = true) ∨ (op = .neq ∧ r = false)) : kBin (.agg [.i, .i, .i, .i, .i, .i, .i, .i, .i, .i, .i]) op (.agg (encS zeroS).toArray) (.agg (encS zeroS).toArray) K := by
  rcases hop with ⟨rfl, rfl⟩ | ⟨rfl, rfl⟩ <;> exact h
end
theorem ArrayPlays_spec {a2 : Value} {s w : Int} {xs : List Sp} (h1 : Sl encP 11 g a2 xs) (hs0 : -9223372036854775808 ≤ s ∧ s ≤ 9223372036854775807) (hw0 : -9223372036854775808 ≤ w ∧ w ≤ 9223372036854775807)
    (hx : ∀ x ∈ xs, -9223372036854775808 ≤ x.line ∧ x.line ≤ 9223372036854775807) {K : Cont} (hK : ∀ n', K (.bool true) g n') :
    AC bellowslaw05_ArrayPlays_id [.int .i64 s, .int .i64 w, a2] g n K := by
  refine ACalls.fold X0_mono ?_
  rw [← bellowslaw05_ArrayPlays_eq]
  simp only [bellowslaw05_ArrayPlays]
  refine h1.len ?_
  simp only [kBin_gtr, kSplit_b, decide_eq_true_eq, decide_eq_false_iff_not]
  refine ⟨fun _ => wakes05_spec fun n' => aRet_of (Sub.refl _) (hK _), fun hlen => ?_⟩
  refine New_spec (fun hbad n2 => ?_) (fun hgood la ls g2 n2 hs2 hla hls hh0 => ?_)
  · simp only [kExtract_t, kGet_zero, kGet_succ]
    refine refNew_spec (fun hbad n2 => ?_) (fun hgood => absurd hgood hbad)
    simp only [kExtract_t, kGet_zero, kGet_succ, kBin_neq, kBin_pnil_eql, kBin_bneq]
    refine kSplit_f (by simp) (kSplit_f rfl ?_)
    refine lfp_ind (fun m t g' n' => g' = g ∧ t 2 = a2 ∧ t 9 = .pointer none ∧ t 11 = .int .i64 0) ?_ (m := 0) ⟨rfl, rfl, rfl, rfl⟩
    rintro I m t g1 n1 hI ⟨rfl, t2, t9, t11⟩
    simp only [bellowslaw05_ArrayPlays_l1, t2, t9, t11]
    refine h1.len ?_
    simp only [kBin_lss, kSplit_b, decide_eq_true_eq, decide_eq_false_iff_not, kBin_pnil_neq]
    refine ⟨fun _ => ?_, fun _ => wakes05_spec fun n' => aRet_of (Sub.refl _) (hK _)⟩
    exact ⟨fun h => (by cases h), fun _ => wakes05_spec fun n' => aRet_of (Sub.refl _) (hK _)⟩
  simp only [kExtract_t, kGet_zero, kGet_succ]
  refine refNew_spec (fun hbad => absurd hgood hbad) (fun _ lq lt g3 n3 hs3 hlq hlt hq0 => ?_)
  simp only [kExtract_t, kGet_zero, kGet_succ, kBin_neq, kBin_p_eql, kBin_bneq]
  refine kSplit_f (by simp) (kSplit_f rfl ?_)
  have P : AP g a2 xs la ls lq lt K := ⟨hx, by omega, h1, hla, hls, hs2.none hlq, hs2.none hlt, ne_of_live hh0.obj hlq, ne_of_live hh0.row hlq, ne_of_live hh0.obj hlt, ne_of_live hh0.row hlt, hK⟩
  have a0 : APa g la ls lq lt 0 (arr0 s.toNat w.toNat) g3 := ⟨hs2.trans hs3, hh0.mono hs3, hq0, arr0_ok (by have := hgood.1; omega) (by have := hgood.2; omega) (by have := hgood.2; omega), arr0_wf _ _, Int.le_refl _⟩
  refine lfp_ind (fun m t g' n' => ∃ (i : Nat) (A : Arr), m = xs.length - i ∧ i ≤ xs.length ∧ APt a2 la lq i t ∧ APa g la ls lq lt i A g') ?_ (m := xs.length)
    ⟨0, arr0 s.toNat w.toNat, by simp, by simp, ⟨rfl, rfl, rfl, rfl⟩, a0⟩
  clear a0 hq0 hh0 hs3 hs2 hlq hlt hla hls
  rintro I m t g3 n3 hI ⟨i, A, hm, hi, ht, ha⟩
  simp only [bellowslaw05_ArrayPlays_l1, ht.t2, ht.t7, ht.t9, ht.t11]
  refine (h1.mono ha.hs).len ?_
  simp only [kBin_lss, kSplit_b, decide_eq_true_eq, decide_eq_false_iff_not, kBin_p_neq]
  refine ⟨fun hlt => ⟨fun _ => ?_, fun h => by cases h⟩, fun hge => wakes05_spec fun n' => aRet_of ha.hs (hK _)⟩
  have hlt : i < xs.length := by omega
  have hN : NextP g a2 la ls lq lt i I := fun t g n A ht ha => hI (xs.length - (i + 1)) _ _ _ (by omega) ⟨i + 1, A, rfl, by omega, ht, ha⟩
  have he : xs[i]? = some xs[i] := List.getElem?_eq_getElem hlt
  generalize xs[i] = x at he
  refine (h1.mono ha.hs).idx encP_len he (fun l o hat => ?_)
  simp only [kPtr_p]
  refine hat.ldN (encP_len _).symm ?_
  intro hn
  simp only [kAgg_a]
  refine ⟨encP_len _, kStN_of (upd_same _ _ _) rfl (by rw [encP_len]; decide) (encP_cell _) ?_⟩
  rw [splice_all (cs := [(.int .i64 0), (.int .i64 0), (.int .i64 0), (.int .u64 0), (.int .u64 0), (.int .u64 0), (.int .u64 0), (.int .u64 0), (.int .u64 0), (.int .u64 0), (.int .u64 0)]) (by rw [encP_len]; rfl)]
  have hs6 := ((Sub.refl g3).new hn (some (.cells [(.int .i64 0), (.int .i64 0), (.int .i64 0), (.int .u64 0), (.int .u64 0), (.int .u64 0), (.int .u64 0), (.int .u64 0), (.int .u64 0), (.int .u64 0), (.int .u64 0)] .exact))).upd_fresh (some (.cells (encP x) .exact)) hn
  have hl12 := upd_same (upd g3 n3 (some (.cells [(.int .i64 0), (.int .i64 0), (.int .i64 0), (.int .u64 0), (.int .u64 0), (.int .u64 0), (.int .u64 0), (.int .u64 0), (.int .u64 0), (.int .u64 0), (.int .u64 0)] .exact))) n3 (some (.cells (encP x) .exact))
  have hnla := ne_of_live ha.ha.obj hn
  have hnls := ne_of_live ha.ha.row hn
  have hnlq := ne_of_live ha.hq.obj hn
  have hnlt := ne_of_live ha.hq.row hn
  generalize upd (upd g3 n3 (some (.cells [(.int .i64 0), (.int .i64 0), (.int .i64 0), (.int .u64 0), (.int .u64 0), (.int .u64 0), (.int .u64 0), (.int .u64 0), (.int .u64 0), (.int .u64 0), (.int .u64 0)] .exact))) n3 (some (.cells (encP x) .exact)) = g6 at *
  have ha6 := ha.mono hs6
  have hu := ha.used
  have hok := ha.ok
  have hwf := ha.wf
  have htt : APt a2 la lq i t := ht
  have hone : APa g la ls lq lt (i + 1) A g6 := ⟨ha6.hs, ha6.ha, ha6.hq, ha6.ok, ha6.wf, by omega⟩
  have live1 : ∀ g', Sub (hide g6 la ls) g' → g' n3 = some (.cells (encP x) .exact) := fun g' h => h.live (hide_live hnla hnls hl12)
  refine kLd_of hl12 (v := .int .i64 x.kind) rfl ?_
  simp only [kBin_eql, kSplit_b, decide_eq_true_eq, decide_eq_false_iff_not]
  refine ⟨fun _ => ?_, fun _ => ⟨fun _ => ?_, fun _ => ⟨fun _ => ?_, fun _ => ⟨fun _ => ?_, fun _ => ⟨fun _ => ?_, fun _ => ?_⟩⟩⟩⟩⟩
  · refine kLd_of hl12 (v := .int .i64 x.line) rfl (kLd_of hl12 (v := .int .i64 x.state) rfl (ldPd hl12 ?_))
    refine kLd_of hl12 (v := .int .i64 x.line) rfl (kLd_of hl12 (v := .int .i64 x.state) rfl (ldPd hl12 ?_))
    refine Set_spec (d := x.d) hok (by omega) ha6.ha (fun g7 n7 hs7 hh7 => ?_)
    have e7 : g7 n3 = g6 n3 := by rw [live1 g7 hs7, hl12]
    refine ⟨e7, e7, e7, refSet_spec (d := x.d) hok hwf (by omega) (ha6.qkeep P hs7) (fun g8 n8 hs8 hh8 => ?_)⟩
    simp only [kBin_neq]
    refine kSplit_f (by simp) ?_
    exact AP_j2 P (by omega) hN ⟨ht.t2, ht.t7, ht.t9, ht.t11⟩ (ha6.both P hs7 hh7 hs8 hh8 (Arr.set_ok hok (by omega) _ _ _) (Arr.set_wf hok hwf _ _ _) (Arr.set_used A _ _ _).2)
  · refine kLd_of hl12 (v := .int .i64 x.line) rfl ?_
    refine Touch_spec hok (by omega) ha6.ha (fun g7 n7 hs7 hh7 => ?_)
    refine kLd_of (live1 g7 hs7) (v := .int .i64 x.line) rfl ?_
    refine refTouch_spec hok hwf (by omega) (ha6.qkeep P hs7) (fun g8 n8 hs8 hh8 => ?_)
    exact AP_j2 P (by omega) hN ⟨ht.t2, ht.t7, ht.t9, ht.t11⟩ (ha6.both P hs7 hh7 hs8 hh8 (Arr.touch_ok hok (by omega) _) (Arr.touch_wf hok hwf _) (Arr.touch_used A _).2)
  · refine kLd_of hl12 (v := .int .i64 x.line) rfl (kLd_of hl12 (v := .int .i64 x.line) rfl ?_)
    refine Drop_spec hok ha6.ha (fun g7 n7 hs7 hh7 => ?_)
    have e7 : g7 n3 = g6 n3 := by rw [live1 g7 hs7, hl12]
    refine ⟨e7, refDrop_spec hok hwf (ha6.qkeep P hs7) (fun g8 n8 hs8 hh8 => ?_)⟩
    simp only [kBin_bneq]
    refine kSplit_f (by simp) ?_
    exact AP_j2 P (by omega) hN ⟨ht.t2, ht.t7, ht.t9, ht.t11⟩ (ha6.both P hs7 hh7 hs8 hh8 (Arr.drop_ok hok _) (Arr.drop_wf hwf _) (by rw [Arr.drop_used]; omega))
  · refine kLd_of hl12 (v := .int .i64 x.line) rfl ?_
    refine Find_spec hok ha6.ha (fun n7 => ?_)
    simp only [kExtract_t, kGet_zero, kGet_succ]
    intro hn7
    simp only [kAgg_a]
    refine ⟨encS_len _, kStN_of (upd_same _ _ _) rfl (by rw [encS_len]; decide) (encS_cell _) ?_⟩
    rw [splice_all (cs := [(.int .i64 0), (.int .i64 0), (.int .u64 0), (.int .u64 0), (.int .u64 0), (.int .u64 0), (.int .u64 0), (.int .u64 0), (.int .u64 0), (.int .u64 0), (.int .i64 0)]) (by rw [encS_len]; rfl)]
    have hs7 := ((Sub.refl g6).new hn7 (some (.cells [(.int .i64 0), (.int .i64 0), (.int .u64 0), (.int .u64 0), (.int .u64 0), (.int .u64 0), (.int .u64 0), (.int .u64 0), (.int .u64 0), (.int .u64 0), (.int .i64 0)] .exact))).upd_fresh (some (.cells (encS (A.find x.line).1) .exact)) hn7
    have hl13 := upd_same (upd g6 n7 (some (.cells [(.int .i64 0), (.int .i64 0), (.int .u64 0), (.int .u64 0), (.int .u64 0), (.int .u64 0), (.int .u64 0), (.int .u64 0), (.int .u64 0), (.int .u64 0), (.int .i64 0)] .exact))) n7 (some (.cells (encS (A.find x.line).1) .exact))
    generalize upd (upd g6 n7 (some (.cells [(.int .i64 0), (.int .i64 0), (.int .u64 0), (.int .u64 0), (.int .u64 0), (.int .u64 0), (.int .u64 0), (.int .u64 0), (.int .u64 0), (.int .u64 0), (.int .i64 0)] .exact))) n7 (some (.cells (encS (A.find x.line).1) .exact)) = g7 at *
    have ha7 := ha6.mono hs7
    have hone7 := hone.mono hs7
    refine kLd_of (hs7.live hl12) (v := .int .i64 x.line) rfl ?_
    refine refAt_spec hok ha7.hq (fun n8 => ?_)
    rw [refAt_eq hok hwf]
    cases hat : A.at x.line with
    | none =>
      have e : A.find x.line = (zeroS, false) := by unfold Arr.find; rw [hat]
      rw [e] at hl13 ⊢
      simp only [Option.map_none, idxV, kBin_geq, kBin_bneq]
      refine kSplit_f rfl (kSplit_f rfl ?_)
      simp only [kBin_lss, kFill_nil]
      have fin : ∀ (t' : Env), APt a2 la lq i t' → bellowslaw05_ArrayPlays_j2 AC K I t' g7 n8 := fun t' ht' => AP_j2 P (by omega) hN ht' hone7
      refine ⟨kSplit_t rfl (ldS (x := zeroS) hl13 (eqS0 (r := false) ?_ (.inr ⟨rfl, rfl⟩))), kSplit_t rfl (ldS (x := zeroS) hl13 (eqS0 (r := false) ?_ (.inr ⟨rfl, rfl⟩)))⟩
      · exact kSplit_f rfl (fin _ ⟨ht.t2, ht.t7, ht.t9, ht.t11⟩)
      · exact kSplit_f rfl (fin _ ⟨ht.t2, ht.t7, ht.t9, ht.t11⟩)
    | some k =>
      have e : A.find x.line = (A.slotAt x.line k, true) := by unfold Arr.find; rw [hat]
      rw [e] at hl13 ⊢
      obtain ⟨hl, hk⟩ := Arr.at_lt hok hat
      have hsl := Arr.slotAt_get hok hl hk
      generalize A.slotAt x.line k = u at *
      simp only [Option.map_some, idxV, kBin_geq, kBin_bneq]
      refine kSplit_f (by rw [decide_eq_true (by omega)]; rfl) (kSplit_t (by rw [decide_eq_true_eq]; omega) ?_)
      refine ldS (x := u) hl13 ?_
      simp only [kNil_p, kPtr_p]
      refine ldRow ha7.hq ?_
      refine (row_sl hok ha7.hq).idx encS_len hsl (fun l o hat2 => ?_)
      simp only [kPtr_p]
      refine hat2.ldN (encS_len _).symm ?_
      have lo : g7 l ≠ none := by
        obtain ⟨bs, bk, h, _⟩ := hat2
        rw [h]; exact fun h => nomatch h
      have both : ∀ (g8 : G) (m : Nat) (p q : Nat) (t' : Env), Sub g7 g8 → g8 p = some (.cells (encS u) .exact) → g8 q = some (.cells (encS u) .exact) → True := fun _ _ _ _ _ _ _ _ => trivial
      have keepE : ∀ (m : Nat) (b : Option Blk), g7 m = none → ∀ j, g7 j ≠ none → upd g7 m b j = g7 j := fun m b hm j hj => upd_ne _ _ (fun e => hj (by rw [e]; exact hm))
      refine ⟨kFill_S ?_, kFill_S ?_⟩
      · intro hn8
        have hs8 := (Sub.refl g7).new hn8 (some (.cells (encS u) .exact))
        have hp := upd_same g7 n8 (some (.cells (encS u) .exact))
        refine ⟨keepE _ _ hn8 _ (by rw [ha7.hq.obj]; exact fun h => nomatch h), keepE _ _ hn8 _ lo, kFill_S ?_⟩
        generalize upd g7 n8 (some (.cells (encS u) .exact)) = g8 at *
        intro hn9
        have hs9 := (Sub.refl g8).new hn9 (some (.cells (encS u) .exact))
        have hq := upd_same g8 (n8 + 1) (some (.cells (encS u) .exact))
        refine ⟨upd_ne _ _ (fun e => by have := hs8.live hl13; rw [e] at this; rw [this] at hn9; cases hn9), ?_⟩
        generalize upd g8 (n8 + 1) (some (.cells (encS u) .exact)) = g9 at *
        refine SameS_spec (xs := [u]) (Sl.one (encS_len _) (hs9.live hp)) (Sl.one (encS_len _) hq) (by simp) (fun n10 => ?_)
        simp only [kUn_not]
        refine kSplit_f rfl ?_
        simp only [kBin_lss]
        refine kSplit_f (by rw [decide_eq_false_iff_not]; omega) ?_
        exact AP_j2 P (by omega) hN ⟨ht.t2, ht.t7, ht.t9, ht.t11⟩ ((hone7.mono hs8).mono hs9)
      · intro hn8
        have hs8 := (Sub.refl g7).new hn8 (some (.cells (encS u) .exact))
        have hp := upd_same g7 n8 (some (.cells (encS u) .exact))
        refine ⟨keepE _ _ hn8 _ (by rw [hl13]; exact fun h => nomatch h), kFill_S ?_⟩
        have hobj := hs8.live ha7.hq.obj
        have hlo8 : upd g7 n8 (some (.cells (encS u) .exact)) l ≠ none := by
          rw [keepE _ _ hn8 _ lo]; exact lo
        generalize upd g7 n8 (some (.cells (encS u) .exact)) = g8 at *
        intro hn9
        have hs9 := (Sub.refl g8).new hn9 (some (.cells (encS u) .exact))
        have hq := upd_same g8 (n8 + 1) (some (.cells (encS u) .exact))
        refine ⟨upd_ne _ _ (fun e => by rw [e] at hobj; rw [hobj] at hn9; cases hn9), upd_ne _ _ (fun e => hlo8 (by rw [e]; exact hn9)), ?_⟩
        generalize upd g8 (n8 + 1) (some (.cells (encS u) .exact)) = g9 at *
        refine SameS_spec (xs := [u]) (Sl.one (encS_len _) hq) (Sl.one (encS_len _) (hs9.live hp)) (by simp) (fun n10 => ?_)
        simp only [kUn_not]
        refine kSplit_f rfl ?_
        simp only [kBin_lss]
        refine kSplit_f (by rw [decide_eq_false_iff_not]; omega) ?_
        exact AP_j2 P (by omega) hN ⟨ht.t2, ht.t7, ht.t9, ht.t11⟩ ((hone7.mono hs8).mono hs9)
  · refine kLd_of hl12 (v := .int .i64 x.line) rfl ?_
    refine Room_spec hok ha6.ha (fun n7 => ?_)
    simp only [kExtract_t, kGet_zero, kGet_succ]
    refine kLd_of hl12 (v := .int .i64 x.line) rfl ?_
    simp only [kBin_geq, kSplit_b, decide_eq_true_eq, decide_eq_false_iff_not]
    refine ⟨fun hl => ?_, fun hl => ?_⟩
    · refine kLd_of hl12 (v := .int .i64 x.line) rfl ?_
      refine refFree_spec hok ha6.hq hl (fun n8 => ?_)
      have er := room_ref hwf hl
      cases hf : A.free x.line with
      | none =>
        rw [hf] at er
        simp only [Option.map_none, idxV, kBin_lss]
        refine kSplit_t rfl ?_
        refine kLd_of hl12 (v := .int .i64 x.line) rfl ?_
        refine refVictim_spec hok ha6.hq hl (fun n9 => ?_)
        refine AP_j4 (l12 := n3) (x := x) P (by omega) hN ⟨ht.t2, ht.t7, ht.t9, ht.t11⟩ hone rfl hl12 rfl rfl ?_
        rw [er]; rfl
      | some q =>
        rw [hf] at er
        simp only [Option.map_some, idxV, kBin_lss]
        refine kSplit_f (by rw [decide_eq_false_iff_not]; omega) ?_
        refine AP_j4 (l12 := n3) (x := x) P (by omega) hN ⟨ht.t2, ht.t7, ht.t9, ht.t11⟩ hone rfl hl12 rfl rfl ?_
        rw [er]; rfl
    · refine AP_j4 (l12 := n3) (x := x) P (by omega) hN ⟨ht.t2, ht.t7, ht.t9, ht.t11⟩ hone rfl hl12 rfl rfl ?_
      have e : (A.room x.line) = (false, -1) := by unfold Arr.room; rw [if_pos (by omega)]
      rw [e]; rfl
  · exact AP_j2 P (by omega) hN ⟨ht.t2, ht.t7, ht.t9, ht.t11⟩ hone
end Go.Proofs.Ytncodeibkmekmaa.Gen
