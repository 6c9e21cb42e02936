import Derived.Test.YtncodeibkmekmaaProg
import Derived.KernelRfl
import Derived.Test.YtncodeibkmekmaaAbsB
/- What the machine comes to on each function, printed by program; each equation is checked by the kernel. -/
set_option linter.all false
set_option linter.deprecated false
namespace Go.Proofs.Ytncodeibkmekmaa.Gen
open Go Go.Proofs.Ytncodeibkmekmaa.Abs

def bellowslaw17_TraceWhole_id : FuncId := 3
def bellowslaw17_wakes_id : FuncId := 11
def trace_Cut_id : FuncId := 12
def trace_Of_id : FuncId := 13
def bellowskeep_Words_id : FuncId := 14
def trace_Tells_id : FuncId := 15
def trace_Same_id : FuncId := 16
def trace_Stores_id : FuncId := 41
def trace_chosen_api_Event_api_Event_id : FuncId := 42
def trace_Of_1_id : FuncId := 43
def trace_itself_id : FuncId := 44
def trace_chosen_api_Event_uint64_id : FuncId := 45
def trace_Tells_1_id : FuncId := 46
def trace_val_id : FuncId := 47
def slices_Equal_api_Event_api_Event_id : FuncId := 48
def trace_Stores_1_id : FuncId := 63

/- bellows/bellowslaw17.TraceWhole -/
def bellowslaw17_TraceWhole_j4 (C : CT) (K : Cont) (I_l1 : ECont) (t : Env) (g : G) (n : Nat) : Prop :=
kBin .int .add (t 9) (.int .i64 1) fun v37 =>
I_l1 (puts t [(36, (t 9)), (37, v37), (9, v37)]) g n

def bellowslaw17_TraceWhole_l3 (C : CT) (K : Cont) (I_l1 : ECont) (I_l3 : ECont) (t : Env) (g : G) (n : Nat) : Prop :=
kIndexAddr (t 7) (t 9) 1 fun v57 =>
kPtr v57 fun l58 o58 =>
kLd g l58 o58 fun v58 =>
kLen v58 fun v59 =>
kBin .int .lss (t 10) v59 fun v60 =>
kSplit v60 (
kLen (t 0) fun v65 =>
kBin .int .geq (t 8) v65 fun v66 =>
kSplit v66 (
aRet K (.bool false) g n) (
kIndexAddr (t 0) (t 8) 5 fun v70 =>
kPtr v70 fun l71 o71 =>
kLdN g l71 o71 5 fun c71 =>
kIndexAddr (t 7) (t 9) 1 fun v74 =>
kPtr v74 fun l75 o75 =>
kLd g l75 o75 fun v75 =>
kIndexAddr v75 (t 10) 5 fun v77 =>
kPtr v77 fun l78 o78 =>
kLdN g l78 o78 5 fun c78 =>
kBin (.agg [.i, .i, .i, .i, .i]) .neq (.agg c71.toArray) (.agg c78.toArray) fun v79 =>
kSplit v79 (
aRet K (.bool false) g n) (
kIndexAddr (t 7) (t 9) 1 fun v84 =>
kPtr v84 fun l85 o85 =>
kLd g l85 o85 fun v85 =>
kIndexAddr v85 (t 10) 5 fun v87 =>
kPtr v87 fun l88 o88 =>
kLd g l88 (o88 + 0) fun v89 =>
kBin .int .eql v89 (.int .i64 11) fun v90 =>
kSplit v90 (
aRet K (.bool false) g n) (
kBin .int .add (t 8) (.int .i64 1) fun v93 =>
kBin .int .add (t 10) (.int .i64 1) fun v62 =>
I_l3 (puts t [(54, (t 10)), (55, (t 7)), (56, (t 9)), (57, v57), (58, v58), (59, v59), (60, v60), (63, (t 8)), (64, (t 0)), (65, v65), (66, v66), (67, (.bool false)), (68, (t 0)), (69, (t 8)), (70, v70), (71, (.agg c71.toArray)), (72, (t 7)), (73, (t 9)), (74, v74), (75, v75), (76, (t 10)), (77, v77), (78, (.agg c78.toArray)), (79, v79), (80, v79), (81, (.bool false)), (82, (t 7)), (83, (t 9)), (84, v84), (85, v85), (86, (t 10)), (87, v87), (88, (ptr l88 (o88 + 0))), (89, v89), (90, v90), (91, v90), (92, (t 8)), (93, v93), (8, v93), (61, (t 10)), (62, v62), (10, v62)]) g n)))) (
bellowslaw17_TraceWhole_j4 C K I_l1 (puts t [(54, (t 10)), (55, (t 7)), (56, (t 9)), (57, v57), (58, v58), (59, v59), (60, v60)]) g n)

def bellowslaw17_TraceWhole_j2 (C : CT) (K : Cont) (I_l1 : ECont) (t : Env) (g : G) (n : Nat) : Prop :=
lfp (bellowslaw17_TraceWhole_l3 C K I_l1) (puts t [(10, (.int .i64 0))]) g n

def bellowslaw17_TraceWhole_j5 (C : CT) (K : Cont) (t : Env) (g : G) (n : Nat) : Prop :=
kFill (reps 0 [(.int .i64 0), (.int .i64 0), (.int .i64 0), (.int .i64 0), (.int .u64 0)]) [] fun c94 =>
kNew c94 .exact g n fun l94 g7 n94 =>
kAppend (.slice (some ⟨l94, 0, none⟩) 0 0) (t 0) 5 40 g7 n94 fun v96 g8 n96 =>
kAppend v96 (t 1) 5 40 g8 n96 fun v98 g9 n98 =>
kLen (t 0) fun v101 =>
kBin .int .eql (t 8) v101 fun v102 =>
kSplit v102 (
C trace_Tells_id [v98, (t 2)] g9 n98 fun v106 g10 n106 =>
kFill (reps 0 [(.int .u64 0)]) [] fun c107 =>
kNew c107 .exact g10 n106 fun l107 g11 n107 =>
C trace_Tells_id [(t 0), (t 2)] g11 n107 fun v110 g12 n110 =>
kAppend (.slice (some ⟨l107, 0, none⟩) 0 0) v110 1 8 g12 n110 fun v111 g13 n111 =>
C trace_Tells_id [(t 1), (t 2)] g13 n111 fun v114 g14 n114 =>
kAppend v111 v114 1 8 g14 n114 fun v115 g15 n115 =>
C bellowskeep_Words_id [v106, v115] g15 n115 fun v116 g16 n116 =>
kSplit v116 (
C bellowslaw17_wakes_id [] g16 n116 fun v119 g17 n119 =>
aRet K v119 g17 n119) (
aRet K (.bool false) g16 n116)) (
aRet K (.bool false) g9 n98)

def bellowslaw17_TraceWhole_l1 (C : CT) (K : Cont) (I_l1 : ECont) (t : Env) (g : G) (n : Nat) : Prop :=
kLen (t 7) fun v34 =>
kBin .int .lss (t 9) v34 fun v35 =>
kSplit v35 (
kBin .int .gtr (t 9) (.int .i64 0) fun v39 =>
kSplit v39 (
kLen (t 0) fun v42 =>
kBin .int .geq (t 8) v42 fun v43 =>
kSplit v43 (
aRet K (.bool false) g n) (
kIndexAddr (t 0) (t 8) 5 fun v47 =>
kPtr v47 fun l48 o48 =>
kLd g l48 (o48 + 0) fun v49 =>
kBin .int .neq v49 (.int .i64 11) fun v50 =>
kSplit v50 (
aRet K (.bool false) g n) (
kBin .int .add (t 8) (.int .i64 1) fun v53 =>
bellowslaw17_TraceWhole_j2 C K I_l1 (puts t [(32, (t 9)), (33, (t 7)), (34, v34), (35, v35), (38, (t 9)), (39, v39), (40, (t 8)), (41, (t 0)), (42, v42), (43, v43), (44, (.bool false)), (45, (t 0)), (46, (t 8)), (47, v47), (48, (ptr l48 (o48 + 0))), (49, v49), (50, v50), (51, v50), (52, (t 8)), (53, v53), (8, v53)]) g n))) (
bellowslaw17_TraceWhole_j2 C K I_l1 (puts t [(32, (t 9)), (33, (t 7)), (34, v34), (35, v35), (38, (t 9)), (39, v39)]) g n)) (
bellowslaw17_TraceWhole_j5 C K (puts t [(32, (t 9)), (33, (t 7)), (34, v34), (35, v35)]) g n)

def bellowslaw17_TraceWhole (C : CT) (a0 a1 a2 : Value) (g : G) (n : Nat) (K : Cont) : Prop :=
kLen a0 fun v13 =>
kBin .int .gtr v13 (.int .i64 500) fun v14 =>
kSplit v14 (
C bellowslaw17_wakes_id [] g n fun v20 g1 n20 =>
aRet K v20 g1 n20) (
kLen a1 fun v17 =>
kBin .int .gtr v17 (.int .i64 500) fun v18 =>
kSplit v18 (
C bellowslaw17_wakes_id [] g n fun v20 g2 n20 =>
aRet K v20 g2 n20) (
kFill (reps 0 [(.int .i64 0), (.int .i64 0), (.int .i64 0), (.int .i64 0), (.int .u64 0)]) [] fun c21 =>
kNew c21 .exact g n fun l21 g3 n21 =>
kAppend (.slice (some ⟨l21, 0, none⟩) 0 0) a0 5 40 g3 n21 fun v23 g4 n23 =>
C trace_Cut_id [v23] g4 n23 fun v24 g5 n24 =>
kLen v24 fun v26 =>
C trace_Of_id [a0, (.int .i64 11), (.int .i64 (-1))] g5 n24 fun v28 g6 n28 =>
kLen v28 fun v29 =>
kBin .int .add v29 (.int .i64 1) fun v30 =>
kBin .int .neq v26 v30 fun v31 =>
kSplit v31 (
aRet K (.bool false) g6 n28) (
lfp (bellowslaw17_TraceWhole_l1 C K) (puts (args0 [a0, a1, a2]) [(6, (.bool false)), (12, a0), (13, v13), (14, v14), (15, (.bool false)), (16, a1), (17, v17), (18, v18), (19, v18), (21, (.slice (some ⟨l21, 0, none⟩) 0 0)), (22, a0), (23, v23), (24, v24), (7, v24), (25, v24), (26, v26), (27, a0), (28, v28), (29, v29), (30, v30), (31, v31), (8, (.int .i64 0)), (9, (.int .i64 0))]) g6 n28)))

theorem bellowslaw17_TraceWhole_eq (C : CT) (a0 a1 a2 : Value) (g : G) (n : Nat) (K : Cont) : bellowslaw17_TraceWhole C a0 a1 a2 g n K = abody Try.prog C bellowslaw17_TraceWhole_id [a0, a1, a2] g n K := by kernel_rfl

/- bellows/bellowslaw17.wakes -/
def bellowslaw17_wakes (C : CT) (g : G) (n : Nat) (K : Cont) : Prop :=
kFill [(.int .i64 0), (.int .i64 0), (.int .i64 0), (.int .i64 0), (.int .u64 0)] [(0, none, (.int .i64 8)), (1, none, (.int .i64 1)), (4, none, (.int .u64 5))] fun c3 =>
kFill [(.int .i64 0), (.int .i64 0), (.int .i64 0), (.int .i64 0), (.int .u64 0)] [(0, none, (.int .i64 11))] fun c4 =>
kFill [(.int .i64 0), (.int .i64 0), (.int .i64 0), (.int .i64 0), (.int .u64 0)] [(0, none, (.int .i64 3)), (2, none, (.int .i64 2)), (3, none, (.int .i64 3)), (4, none, (.int .u64 7))] fun c5 =>
kFill (reps 3 [(.int .i64 0), (.int .i64 0), (.int .i64 0), (.int .i64 0), (.int .u64 0)]) [(0, (some 5), (.agg c3.toArray)), (5, (some 5), (.agg c4.toArray)), (10, (some 5), (.agg c5.toArray))] fun c6 =>
kNew c6 .exact g n fun l6 g1 n6 =>
C trace_Cut_id [(.slice (some ⟨l6, 0, none⟩) 3 3)] g1 n6 fun v8 g2 n8 =>
kLen v8 fun v10 =>
kBin .int .eql v10 (.int .i64 2) fun v11 =>
kSplit v11 (
kIndexAddr v8 (.int .i64 0) 1 fun v14 =>
kPtr v14 fun l15 o15 =>
kLd g2 l15 o15 fun v15 =>
kLen v15 fun v16 =>
kBin .int .eql v16 (.int .i64 1) fun v17 =>
kSplit v17 (
kIndexAddr v8 (.int .i64 1) 1 fun v21 =>
kPtr v21 fun l22 o22 =>
kLd g2 l22 o22 fun v22 =>
kLen v22 fun v23 =>
kBin .int .eql v23 (.int .i64 1) fun v24 =>
kSplit v24 (
C trace_Tells_id [(.slice (some ⟨l6, 0, none⟩) 3 3), (.int .i64 1)] g2 n8 fun v28 g3 n28 =>
kFill (reps 1 [(.int .u64 0)]) [(0, none, (.int .u64 5))] fun c29 =>
kNew c29 .exact g3 n28 fun l29 g4 n29 =>
C bellowskeep_Words_id [v28, (.slice (some ⟨l29, 0, none⟩) 1 1)] g4 n29 fun v30 g5 n30 =>
kSplit v30 (
C trace_Stores_id [(.slice (some ⟨l6, 0, none⟩) 3 3), (.int .i64 2), (.int .i64 3)] g5 n30 fun v34 g6 n34 =>
kFill (reps 1 [(.int .u64 0)]) [(0, none, (.int .u64 7))] fun c35 =>
kNew c35 .exact g6 n34 fun l35 g7 n35 =>
C bellowskeep_Words_id [v34, (.slice (some ⟨l35, 0, none⟩) 1 1)] g7 n35 fun v36 g8 n36 =>
kSplit v36 (
C trace_Of_id [(.slice (some ⟨l6, 0, none⟩) 3 3), (.int .i64 0), (.int .i64 (-1))] g8 n36 fun v40 g9 n40 =>
kLen v40 fun v41 =>
kBin .int .eql v41 (.int .i64 3) fun v42 =>
kSplit v42 (
C trace_Same_id [(.slice (some ⟨l6, 0, none⟩) 3 3), (.slice (some ⟨l6, 0, none⟩) 3 3)] g9 n40 fun v47 g10 n47 =>
aRet K v47 g10 n47) (
aRet K (.bool false) g9 n40)) (
aRet K (.bool false) g8 n36)) (
aRet K (.bool false) g5 n30)) (
aRet K (.bool false) g2 n8)) (
aRet K (.bool false) g2 n8)) (
aRet K (.bool false) g2 n8)

theorem bellowslaw17_wakes_eq (C : CT) (g : G) (n : Nat) (K : Cont) : bellowslaw17_wakes C g n K = abody Try.prog C bellowslaw17_wakes_id [] g n K := by kernel_rfl

/- bellows/trace.Cut -/
def trace_Cut_l1 (C : CT) (K : Cont) (I_l1 : ECont) (t : Env) (g : G) (n : Nat) : Prop :=
kBin .int .lss (t 10) (t 9) fun v11 =>
kSplit v11 (
kIndexAddr (t 8) (t 10) 5 fun v12 =>
kPtr v12 fun l13 o13 =>
kLdN g l13 o13 5 fun c13 =>
kNew [(.int .i64 0), (.int .i64 0), (.int .i64 0), (.int .i64 0), (.int .u64 0)] .exact g n fun l5 g2 n5 =>
kAgg (.agg c13.toArray) fun cg3 =>
cg3.length = 5 ∧ kStN g2 l5 0 cg3 fun g3 =>
kLd g3 l5 (0 + 0) fun v15 =>
kBin .int .eql v15 (.int .i64 11) fun v16 =>
kSplit v16 (
kFill (reps 1 [(.slice none 0 0)]) [(0, none, (.slice none 0 0))] fun c18 =>
kNew c18 .exact g3 n5 fun l18 g4 n18 =>
kAppend (t 3) (.slice (some ⟨l18, 0, none⟩) 1 1) 1 24 g4 n18 fun v19 g5 n19 =>
kBin .int .add (t 10) (.int .i64 1) fun v33 =>
I_l1 (puts t [(11, v11), (12, v12), (13, (.agg c13.toArray)), (5, (ptr l5 0)), (14, (ptr l5 (0 + 0))), (15, v15), (16, v16), (17, (t 3)), (18, (.slice (some ⟨l18, 0, none⟩) 1 1)), (19, v19), (3, v19), (33, v33), (10, v33)]) g5 n19) (
kLen (t 3) fun v21 =>
kBin .int .sub v21 (.int .i64 1) fun v22 =>
kIndexAddr (t 3) v22 1 fun v27 =>
kPtr v27 fun l28 o28 =>
kLd g3 l28 o28 fun v28 =>
kLdN g3 l5 0 5 fun c29 =>
kFill (reps 1 [(.int .i64 0), (.int .i64 0), (.int .i64 0), (.int .i64 0), (.int .u64 0)]) [(0, (some 5), (.agg c29.toArray))] fun c30 =>
kNew c30 .exact g3 n5 fun l30 g6 n30 =>
(kPtr v27 fun l _ => g6 l = g3 l) ∧ kAppend v28 (.slice (some ⟨l30, 0, none⟩) 1 1) 5 40 g6 n30 fun v31 g7 n31 =>
kIndexAddr (t 3) v22 1 fun v32 =>
kPtr v32 fun lg8 og8 =>
kSt g7 lg8 og8 v31 fun g8 =>
kBin .int .add (t 10) (.int .i64 1) fun v33 =>
I_l1 (puts t [(11, v11), (12, v12), (13, (.agg c13.toArray)), (5, (ptr l5 0)), (14, (ptr l5 (0 + 0))), (15, v15), (16, v16), (20, (t 3)), (21, v21), (22, v22), (6, v22), (23, (t 3)), (24, v22), (25, (t 3)), (26, v22), (27, v27), (28, v28), (29, (.agg c29.toArray)), (30, (.slice (some ⟨l30, 0, none⟩) 1 1)), (31, v31), (32, v32), (33, v33), (10, v33)]) g8 n31)) (
aRet K (t 3) g n)

def trace_Cut (C : CT) (a0 : Value) (g : G) (n : Nat) (K : Cont) : Prop :=
kFill (reps 1 [(.slice none 0 0)]) [(0, none, (.slice none 0 0))] fun c7 =>
kNew c7 .exact g n fun l7 g1 n7 =>
kLen a0 fun v9 =>
lfp (trace_Cut_l1 C K) (puts (args0 [a0]) [(2, (.slice none 0 0)), (7, (.slice (some ⟨l7, 0, none⟩) 1 1)), (3, (.slice (some ⟨l7, 0, none⟩) 1 1)), (8, a0), (9, v9), (10, (.int .i64 0))]) g1 n7

theorem trace_Cut_eq (C : CT) (a0 : Value) (g : G) (n : Nat) (K : Cont) : trace_Cut C a0 g n K = abody Try.prog C trace_Cut_id [a0] g n K := by kernel_rfl

/- bellows/trace.Of -/
def trace_Of (C : CT) (a0 a1 a2 : Value) (g : G) (n : Nat) (K : Cont) : Prop :=
isCell a1 = true ∧ kNew [a1] .exact g n fun l4 g1 n4 =>
isCell a2 = true ∧ kNew [a2] .exact g1 n4 fun l5 g2 n5 =>
C trace_chosen_api_Event_api_Event_id [a0, (.func (.func trace_Of_1_id) #[] #[(ptr l4 0), (ptr l5 0)]), (.func (.func trace_itself_id) #[] #[])] g2 n5 fun v9 g3 n9 =>
aRet K v9 g3 n9

theorem trace_Of_eq (C : CT) (a0 a1 a2 : Value) (g : G) (n : Nat) (K : Cont) : trace_Of C a0 a1 a2 g n K = abody Try.prog C trace_Of_id [a0, a1, a2] g n K := by kernel_rfl

/- bellows/bellowskeep.Words -/
def bellowskeep_Words_l1 (C : CT) (K : Cont) (I_l1 : ECont) (t : Env) (g : G) (n : Nat) : Prop :=
kLen (t 0) fun v13 =>
kBin .int .lss (t 5) v13 fun v14 =>
kSplit v14 (
kIndexAddr (t 0) (t 5) 1 fun v19 =>
kPtr v19 fun l20 o20 =>
kLd g l20 o20 fun v20 =>
kIndexAddr (t 1) (t 5) 1 fun v23 =>
kPtr v23 fun l24 o24 =>
kLd g l24 o24 fun v24 =>
kBin .int .neq v20 v24 fun v25 =>
kSplit v25 (
aRet K (.bool false) g n) (
kBin .int .add (t 5) (.int .i64 1) fun v16 =>
I_l1 (puts t [(11, (t 5)), (12, (t 0)), (13, v13), (14, v14), (17, (t 0)), (18, (t 5)), (19, v19), (20, v20), (21, (t 1)), (22, (t 5)), (23, v23), (24, v24), (25, v25), (15, (t 5)), (16, v16), (5, v16)]) g n)) (
aRet K (.bool true) g n)

def bellowskeep_Words (C : CT) (a0 a1 : Value) (g : G) (n : Nat) (K : Cont) : Prop :=
kLen a0 fun v7 =>
kLen a1 fun v9 =>
kBin .int .neq v7 v9 fun v10 =>
kSplit v10 (
aRet K (.bool false) g n) (
lfp (bellowskeep_Words_l1 C K) (puts (args0 [a0, a1]) [(4, (.bool false)), (6, a0), (7, v7), (8, a1), (9, v9), (10, v10), (5, (.int .i64 0))]) g n)

theorem bellowskeep_Words_eq (C : CT) (a0 a1 : Value) (g : G) (n : Nat) (K : Cont) : bellowskeep_Words C a0 a1 g n K = abody Try.prog C bellowskeep_Words_id [a0, a1] g n K := by kernel_rfl

/- bellows/trace.Tells -/
def trace_Tells (C : CT) (a0 a1 : Value) (g : G) (n : Nat) (K : Cont) : Prop :=
isCell a1 = true ∧ kNew [a1] .exact g n fun l3 g1 n3 =>
C trace_chosen_api_Event_uint64_id [a0, (.func (.func trace_Tells_1_id) #[] #[(ptr l3 0)]), (.func (.func trace_val_id) #[] #[])] g1 n3 fun v7 g2 n7 =>
aRet K v7 g2 n7

theorem trace_Tells_eq (C : CT) (a0 a1 : Value) (g : G) (n : Nat) (K : Cont) : trace_Tells C a0 a1 g n K = abody Try.prog C trace_Tells_id [a0, a1] g n K := by kernel_rfl

/- bellows/trace.Same -/
def trace_Same (C : CT) (a0 a1 : Value) (g : G) (n : Nat) (K : Cont) : Prop :=
C slices_Equal_api_Event_api_Event_id [a0, a1] g n fun v7 g1 n7 =>
aRet K v7 g1 n7

theorem trace_Same_eq (C : CT) (a0 a1 : Value) (g : G) (n : Nat) (K : Cont) : trace_Same C a0 a1 g n K = abody Try.prog C trace_Same_id [a0, a1] g n K := by kernel_rfl

/- bellows/trace.Stores -/
def trace_Stores (C : CT) (a0 a1 a2 : Value) (g : G) (n : Nat) (K : Cont) : Prop :=
isCell a1 = true ∧ kNew [a1] .exact g n fun l4 g1 n4 =>
isCell a2 = true ∧ kNew [a2] .exact g1 n4 fun l5 g2 n5 =>
C trace_chosen_api_Event_uint64_id [a0, (.func (.func trace_Stores_1_id) #[] #[(ptr l4 0), (ptr l5 0)]), (.func (.func trace_val_id) #[] #[])] g2 n5 fun v9 g3 n9 =>
aRet K v9 g3 n9

theorem trace_Stores_eq (C : CT) (a0 a1 a2 : Value) (g : G) (n : Nat) (K : Cont) : trace_Stores C a0 a1 a2 g n K = abody Try.prog C trace_Stores_id [a0, a1, a2] g n K := by kernel_rfl

/- bellows/trace.chosen[bellows/api.Event,bellows/api.Event] -/
def trace_chosen_api_Event_api_Event_l1 (C : CT) (K : Cont) (I_l1 : ECont) (t : Env) (g : G) (n : Nat) : Prop :=
kBin .int .lss (t 12) (t 11) fun v13 =>
kSplit v13 (
kIndexAddr (t 10) (t 12) 5 fun v14 =>
kPtr v14 fun l15 o15 =>
kLdN g l15 o15 5 fun c15 =>
kNew [(.int .i64 0), (.int .i64 0), (.int .i64 0), (.int .i64 0), (.int .u64 0)] .exact g n fun l9 g1 n9 =>
kAgg (.agg c15.toArray) fun cg2 =>
cg2.length = 5 ∧ kStN g1 l9 0 cg2 fun g2 =>
kLdN g2 l9 0 5 fun c17 =>
kCall C (t 1) [(.agg c17.toArray)] g2 n9 fun v18 g3 n18 =>
kSplit v18 (
kLdN g3 l9 0 5 fun c21 =>
kCall C (t 2) [(.agg c21.toArray)] g3 n18 fun v22 g4 n22 =>
kFill (reps 1 [(.int .i64 0), (.int .i64 0), (.int .i64 0), (.int .i64 0), (.int .u64 0)]) [(0, (some 5), v22)] fun c23 =>
kNew c23 .exact g4 n22 fun l23 g5 n23 =>
kAppend (t 7) (.slice (some ⟨l23, 0, none⟩) 1 1) 5 40 g5 n23 fun v24 g6 n24 =>
kBin .int .add (t 12) (.int .i64 1) fun v25 =>
I_l1 (puts t [(13, v13), (14, v14), (15, (.agg c15.toArray)), (9, (ptr l9 0)), (16, (t 1)), (17, (.agg c17.toArray)), (18, v18), (19, (t 7)), (20, (t 2)), (21, (.agg c21.toArray)), (22, v22), (23, (.slice (some ⟨l23, 0, none⟩) 1 1)), (24, v24), (7, v24), (25, v25), (12, v25)]) g6 n24) (
kBin .int .add (t 12) (.int .i64 1) fun v25 =>
I_l1 (puts t [(13, v13), (14, v14), (15, (.agg c15.toArray)), (9, (ptr l9 0)), (16, (t 1)), (17, (.agg c17.toArray)), (18, v18), (25, v25), (12, v25)]) g3 n18)) (
aRet K (t 7) g n)

def trace_chosen_api_Event_api_Event (C : CT) (a0 a1 a2 : Value) (g : G) (n : Nat) (K : Cont) : Prop :=
kLen a0 fun v11 =>
lfp (trace_chosen_api_Event_api_Event_l1 C K) (puts (args0 [a0, a1, a2]) [(6, (.slice none 0 0)), (7, (.slice none 0 0)), (10, a0), (11, v11), (12, (.int .i64 0))]) g n

theorem trace_chosen_api_Event_api_Event_eq (C : CT) (a0 a1 a2 : Value) (g : G) (n : Nat) (K : Cont) : trace_chosen_api_Event_api_Event C a0 a1 a2 g n K = abody Try.prog C trace_chosen_api_Event_api_Event_id [a0, a1, a2] g n K := by kernel_rfl

/- bellows/trace.Of$1 -/
def trace_Of_1 (C : CT) (a0 a1 a2 : Value) (g : G) (n : Nat) (K : Cont) : Prop :=
kAgg a0 fun c3 =>
kNew c3 .exact g n fun l3 g1 n3 =>
kPtr a1 fun l5 o5 =>
kLd g1 l5 o5 fun v5 =>
kBin .int .eql v5 (.int .i64 0) fun v6 =>
kSplit v6 (
kPtr a2 fun l14 o14 =>
kLd g1 l14 o14 fun v14 =>
kBin .int .eql v14 (.int .i64 (-1)) fun v15 =>
kSplit v15 (
aRet K (.bool true) g1 n3) (
kLd g1 l3 (0 + 1) fun v18 =>
kPtr a2 fun l19 o19 =>
kLd g1 l19 o19 fun v19 =>
kBin .int .eql v18 v19 fun v20 =>
aRet K v20 g1 n3)) (
kLd g1 l3 (0 + 0) fun v9 =>
kPtr a1 fun l10 o10 =>
kLd g1 l10 o10 fun v10 =>
kBin .int .eql v9 v10 fun v11 =>
kSplit v11 (
kPtr a2 fun l14 o14 =>
kLd g1 l14 o14 fun v14 =>
kBin .int .eql v14 (.int .i64 (-1)) fun v15 =>
kSplit v15 (
aRet K (.bool true) g1 n3) (
kLd g1 l3 (0 + 1) fun v18 =>
kPtr a2 fun l19 o19 =>
kLd g1 l19 o19 fun v19 =>
kBin .int .eql v18 v19 fun v20 =>
aRet K v20 g1 n3)) (
aRet K (.bool false) g1 n3))

theorem trace_Of_1_eq (C : CT) (a0 a1 a2 : Value) (g : G) (n : Nat) (K : Cont) : trace_Of_1 C a0 a1 a2 g n K = abody Try.prog C trace_Of_1_id [a0, a1, a2] g n K := by kernel_rfl

/- bellows/trace.itself -/
def trace_itself (C : CT) (a0 : Value) (g : G) (n : Nat) (K : Cont) : Prop :=
kAgg a0 fun c1 =>
kNew c1 .exact g n fun l1 g1 n1 =>
kNew [(.int .i64 0), (.int .i64 0), (.int .i64 0), (.int .i64 0), (.int .u64 0)] .exact g1 n1 fun l2 g2 n2 =>
kLdN g2 l1 0 5 fun c3 =>
kAgg (.agg c3.toArray) fun cg3 =>
cg3.length = 5 ∧ kStN g2 l2 0 cg3 fun g3 =>
kLdN g3 l2 0 5 fun r0 =>
aRet K (.agg r0.toArray) g3 n2

theorem trace_itself_eq (C : CT) (a0 : Value) (g : G) (n : Nat) (K : Cont) : trace_itself C a0 g n K = abody Try.prog C trace_itself_id [a0] g n K := by kernel_rfl

/- bellows/trace.chosen[bellows/api.Event,uint64] -/
def trace_chosen_api_Event_uint64_l1 (C : CT) (K : Cont) (I_l1 : ECont) (t : Env) (g : G) (n : Nat) : Prop :=
kBin .int .lss (t 12) (t 11) fun v13 =>
kSplit v13 (
kIndexAddr (t 10) (t 12) 5 fun v14 =>
kPtr v14 fun l15 o15 =>
kLdN g l15 o15 5 fun c15 =>
kNew [(.int .i64 0), (.int .i64 0), (.int .i64 0), (.int .i64 0), (.int .u64 0)] .exact g n fun l9 g1 n9 =>
kAgg (.agg c15.toArray) fun cg2 =>
cg2.length = 5 ∧ kStN g1 l9 0 cg2 fun g2 =>
kLdN g2 l9 0 5 fun c17 =>
kCall C (t 1) [(.agg c17.toArray)] g2 n9 fun v18 g3 n18 =>
kSplit v18 (
kLdN g3 l9 0 5 fun c21 =>
kCall C (t 2) [(.agg c21.toArray)] g3 n18 fun v22 g4 n22 =>
kFill (reps 1 [(.int .u64 0)]) [(0, none, v22)] fun c23 =>
kNew c23 .exact g4 n22 fun l23 g5 n23 =>
kAppend (t 7) (.slice (some ⟨l23, 0, none⟩) 1 1) 1 8 g5 n23 fun v24 g6 n24 =>
kBin .int .add (t 12) (.int .i64 1) fun v25 =>
I_l1 (puts t [(13, v13), (14, v14), (15, (.agg c15.toArray)), (9, (ptr l9 0)), (16, (t 1)), (17, (.agg c17.toArray)), (18, v18), (19, (t 7)), (20, (t 2)), (21, (.agg c21.toArray)), (22, v22), (23, (.slice (some ⟨l23, 0, none⟩) 1 1)), (24, v24), (7, v24), (25, v25), (12, v25)]) g6 n24) (
kBin .int .add (t 12) (.int .i64 1) fun v25 =>
I_l1 (puts t [(13, v13), (14, v14), (15, (.agg c15.toArray)), (9, (ptr l9 0)), (16, (t 1)), (17, (.agg c17.toArray)), (18, v18), (25, v25), (12, v25)]) g3 n18)) (
aRet K (t 7) g n)

def trace_chosen_api_Event_uint64 (C : CT) (a0 a1 a2 : Value) (g : G) (n : Nat) (K : Cont) : Prop :=
kLen a0 fun v11 =>
lfp (trace_chosen_api_Event_uint64_l1 C K) (puts (args0 [a0, a1, a2]) [(6, (.slice none 0 0)), (7, (.slice none 0 0)), (10, a0), (11, v11), (12, (.int .i64 0))]) g n

theorem trace_chosen_api_Event_uint64_eq (C : CT) (a0 a1 a2 : Value) (g : G) (n : Nat) (K : Cont) : trace_chosen_api_Event_uint64 C a0 a1 a2 g n K = abody Try.prog C trace_chosen_api_Event_uint64_id [a0, a1, a2] g n K := by kernel_rfl

/- bellows/trace.Tells$1 -/
def trace_Tells_1 (C : CT) (a0 a1 : Value) (g : G) (n : Nat) (K : Cont) : Prop :=
kAgg a0 fun c2 =>
kNew c2 .exact g n fun l2 g1 n2 =>
kLd g1 l2 (0 + 0) fun v5 =>
kBin .int .eql v5 (.int .i64 8) fun v6 =>
kSplit v6 (
kLd g1 l2 (0 + 1) fun v9 =>
kPtr a1 fun l10 o10 =>
kLd g1 l10 o10 fun v10 =>
kBin .int .eql v9 v10 fun v11 =>
aRet K v11 g1 n2) (
aRet K (.bool false) g1 n2)

theorem trace_Tells_1_eq (C : CT) (a0 a1 : Value) (g : G) (n : Nat) (K : Cont) : trace_Tells_1 C a0 a1 g n K = abody Try.prog C trace_Tells_1_id [a0, a1] g n K := by kernel_rfl

/- bellows/trace.val -/
def trace_val (C : CT) (a0 : Value) (g : G) (n : Nat) (K : Cont) : Prop :=
kAgg a0 fun c1 =>
kNew c1 .exact g n fun l1 g1 n1 =>
kLd g1 l1 (0 + 4) fun v4 =>
aRet K v4 g1 n1

theorem trace_val_eq (C : CT) (a0 : Value) (g : G) (n : Nat) (K : Cont) : trace_val C a0 g n K = abody Try.prog C trace_val_id [a0] g n K := by kernel_rfl

/- slices.Equal[[]bellows/api.Event,bellows/api.Event] -/
def slices_Equal_api_Event_api_Event_l1 (C : CT) (K : Cont) (I_l1 : ECont) (t : Env) (g : G) (n : Nat) : Prop :=
kBin .int .lss (t 13) (t 12) fun v14 =>
kSplit v14 (
kIndexAddr (t 0) (t 13) 5 fun v18 =>
kPtr v18 fun l19 o19 =>
kLdN g l19 o19 5 fun c19 =>
kIndexAddr (t 1) (t 13) 5 fun v22 =>
kPtr v22 fun l23 o23 =>
kLdN g l23 o23 5 fun c23 =>
kBin (.agg [.i, .i, .i, .i, .i]) .neq (.agg c19.toArray) (.agg c23.toArray) fun v24 =>
kSplit v24 (
aRet K (.bool false) g n) (
kBin .int .add (t 13) (.int .i64 1) fun v25 =>
I_l1 (puts t [(14, v14), (15, (t 13)), (5, (t 13)), (16, (t 0)), (17, (t 13)), (18, v18), (19, (.agg c19.toArray)), (20, (t 1)), (21, (t 13)), (22, v22), (23, (.agg c23.toArray)), (24, v24), (25, v25), (13, v25)]) g n)) (
aRet K (.bool true) g n)

def slices_Equal_api_Event_api_Event (C : CT) (a0 a1 : Value) (g : G) (n : Nat) (K : Cont) : Prop :=
kLen a0 fun v7 =>
kLen a1 fun v9 =>
kBin .int .neq v7 v9 fun v10 =>
kSplit v10 (
aRet K (.bool false) g n) (
kLen a0 fun v12 =>
lfp (slices_Equal_api_Event_api_Event_l1 C K) (puts (args0 [a0, a1]) [(4, (.bool false)), (6, a0), (7, v7), (8, a1), (9, v9), (10, v10), (11, a0), (12, v12), (13, (.int .i64 0))]) g n)

theorem slices_Equal_api_Event_api_Event_eq (C : CT) (a0 a1 : Value) (g : G) (n : Nat) (K : Cont) : slices_Equal_api_Event_api_Event C a0 a1 g n K = abody Try.prog C slices_Equal_api_Event_api_Event_id [a0, a1] g n K := by kernel_rfl

/- bellows/trace.Stores$1 -/
def trace_Stores_1 (C : CT) (a0 a1 a2 : Value) (g : G) (n : Nat) (K : Cont) : Prop :=
kAgg a0 fun c3 =>
kNew c3 .exact g n fun l3 g1 n3 =>
kLd g1 l3 (0 + 0) fun v6 =>
kBin .int .eql v6 (.int .i64 3) fun v7 =>
kSplit v7 (
kLd g1 l3 (0 + 2) fun v10 =>
kPtr a1 fun l11 o11 =>
kLd g1 l11 o11 fun v11 =>
kBin .int .eql v10 v11 fun v12 =>
kSplit v12 (
kLd g1 l3 (0 + 3) fun v16 =>
kPtr a2 fun l17 o17 =>
kLd g1 l17 o17 fun v17 =>
kBin .int .eql v16 v17 fun v18 =>
aRet K v18 g1 n3) (
aRet K (.bool false) g1 n3)) (
aRet K (.bool false) g1 n3)

theorem trace_Stores_1_eq (C : CT) (a0 a1 a2 : Value) (g : G) (n : Nat) (K : Cont) : trace_Stores_1 C a0 a1 a2 g n K = abody Try.prog C trace_Stores_1_id [a0, a1, a2] g n K := by kernel_rfl

end Go.Proofs.Ytncodeibkmekmaa.Gen
