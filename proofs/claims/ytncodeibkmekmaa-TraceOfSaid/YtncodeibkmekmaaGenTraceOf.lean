import Derived.Test.YtncodeibkmekmaaProg
import Derived.KernelRfl
import Derived.Test.YtncodeibkmekmaaAbsB
/- What the machine comes to on each function, printed by program; each equation is checked by the kernel. -/
set_option linter.all false
set_option linter.deprecated false
namespace Go.Proofs.Ytncodeibkmekmaa.Gen
open Go Go.Proofs.Ytncodeibkmekmaa.Abs

def bellowslaw17_TraceOf_id : FuncId := 4
def bellowslaw17_wakes_id : FuncId := 11
def trace_Cut_id : FuncId := 12
def trace_Of_id : FuncId := 13
def bellowskeep_Words_id : FuncId := 14
def trace_Tells_id : FuncId := 15
def trace_Same_id : FuncId := 16
def bellowslaw17_told_id : FuncId := 17
def trace_Stores_id : FuncId := 41
def trace_chosen_api_Event_api_Event_id : FuncId := 42
def trace_Of_1_id : FuncId := 43
def trace_itself_id : FuncId := 44
def trace_chosen_api_Event_uint64_id : FuncId := 45
def trace_Tells_1_id : FuncId := 46
def trace_val_id : FuncId := 47
def slices_Equal_api_Event_api_Event_id : FuncId := 48
def trace_Stores_1_id : FuncId := 63

/- bellows/bellowslaw17.TraceOf -/
def bellowslaw17_TraceOf_j2 (C : CT) (K : Cont) (I_l1 : ECont) (t : Env) (g : G) (n : Nat) : Prop :=
kBin .int .add (t 6) (.int .i64 1) fun v19 =>
I_l1 (puts t [(18, (t 6)), (19, v19), (6, v19)]) g n

def bellowslaw17_TraceOf_j6 (C : CT) (K : Cont) (I_l1 : ECont) (I_l3 : ECont) (t : Env) (g : G) (n : Nat) : Prop :=
kBin .int .add (t 9) (.int .i64 1) fun v36 =>
I_l3 (puts t [(35, (t 9)), (36, v36), (9, v36)]) g n

def bellowslaw17_TraceOf_j5 (C : CT) (K : Cont) (I_l1 : ECont) (I_l3 : ECont) (t : Env) (g : G) (n : Nat) : Prop :=
kLen (t 0) fun v56 =>
kBin .int .eql (t 8) v56 fun v57 =>
kSplit v57 (
aRet K (.bool false) g n) (
kIndexAddr (t 7) (t 9) 5 fun v61 =>
kPtr v61 fun l62 o62 =>
kLd g l62 (o62 + 0) fun v63 =>
kBin .int .neq v63 (t 6) fun v65 =>
kSplit v65 (
aRet K (.bool false) g n) (
kBin .int .add (t 8) (.int .i64 1) fun v68 =>
bellowslaw17_TraceOf_j6 C K I_l1 I_l3 (puts t [(54, (t 8)), (55, (t 0)), (56, v56), (57, v57), (58, (.bool false)), (59, (t 7)), (60, (t 9)), (61, v61), (62, (ptr l62 (o62 + 0))), (63, v63), (64, (t 6)), (65, v65), (66, v65), (67, (t 8)), (68, v68), (8, v68)]) g n))

def bellowslaw17_TraceOf_l4 (C : CT) (K : Cont) (I_l1 : ECont) (I_l3 : ECont) (I_l4 : ECont) (t : Env) (g : G) (n : Nat) : Prop :=
kLen (t 0) fun v39 =>
kBin .int .lss (t 8) v39 fun v40 =>
kSplit v40 (
kIndexAddr (t 0) (t 8) 5 fun v44 =>
kPtr v44 fun l45 o45 =>
kLdN g l45 o45 5 fun c45 =>
kIndexAddr (t 7) (t 9) 5 fun v48 =>
kPtr v48 fun l49 o49 =>
kLdN g l49 o49 5 fun c49 =>
kBin (.agg [.i, .i, .i, .i, .i]) .neq (.agg c45.toArray) (.agg c49.toArray) fun v50 =>
kSplit v50 (
kBin .int .add (t 8) (.int .i64 1) fun v53 =>
I_l4 (puts t [(37, (t 8)), (38, (t 0)), (39, v39), (40, v40), (41, (.bool true)), (42, (t 0)), (43, (t 8)), (44, v44), (45, (.agg c45.toArray)), (46, (t 7)), (47, (t 9)), (48, v48), (49, (.agg c49.toArray)), (50, v50), (51, v50), (52, (t 8)), (53, v53), (8, v53)]) g n) (
bellowslaw17_TraceOf_j5 C K I_l1 I_l3 (puts t [(37, (t 8)), (38, (t 0)), (39, v39), (40, v40), (41, (.bool true)), (42, (t 0)), (43, (t 8)), (44, v44), (45, (.agg c45.toArray)), (46, (t 7)), (47, (t 9)), (48, v48), (49, (.agg c49.toArray)), (50, v50), (51, v50)]) g n)) (
bellowslaw17_TraceOf_j5 C K I_l1 I_l3 (puts t [(37, (t 8)), (38, (t 0)), (39, v39), (40, v40), (41, (.bool false)), (42, undef), (43, undef), (44, undef), (45, undef), (46, undef), (47, undef), (48, undef), (49, undef), (50, undef), (51, (.bool false))]) g n)

def bellowslaw17_TraceOf_l3 (C : CT) (K : Cont) (I_l1 : ECont) (I_l3 : ECont) (t : Env) (g : G) (n : Nat) : Prop :=
kLen (t 7) fun v33 =>
kBin .int .lss (t 9) v33 fun v34 =>
kSplit v34 (
lfp (bellowslaw17_TraceOf_l4 C K I_l1 I_l3) (puts t [(31, (t 9)), (32, (t 7)), (33, v33), (34, v34)]) g n) (
bellowslaw17_TraceOf_j2 C K I_l1 (puts t [(31, (t 9)), (32, (t 7)), (33, v33), (34, v34)]) g n)

def bellowslaw17_TraceOf_j9 (C : CT) (K : Cont) (I_l8 : ECont) (t : Env) (g : G) (n : Nat) : Prop :=
kBin .int .add (t 11) (.int .i64 1) fun v74 =>
I_l8 (puts t [(73, (t 11)), (74, v74), (11, v74)]) g n

def bellowslaw17_TraceOf_j10 (C : CT) (K : Cont) (t : Env) (g : G) (n : Nat) : Prop :=
kBin .int .add (t 5) (t 10) fun v101 =>
kLen (t 0) fun v103 =>
kBin .int .eql v101 v103 fun v104 =>
kSplit v104 (
C trace_Of_id [(t 0), (.int .i64 0), (.int .i64 (-1))] g n fun v107 g5 n107 =>
C trace_Same_id [v107, (t 0)] g5 n107 fun v109 g6 n109 =>
kSplit v109 (
C trace_Of_id [(t 0), (.int .i64 8), (t 1)] g6 n109 fun v114 g7 n114 =>
kLen v114 fun v115 =>
C trace_Tells_id [(t 0), (t 1)] g7 n114 fun v118 g8 n118 =>
kLen v118 fun v119 =>
C bellowslaw17_told_id [(t 0), (t 1)] g8 n118 fun v122 g9 n122 =>
kBin .int .add v119 v122 fun v123 =>
kBin .int .eql v115 v123 fun v124 =>
kSplit v124 (
C bellowslaw17_wakes_id [] g9 n122 fun v127 g10 n127 =>
aRet K v127 g10 n127) (
aRet K (.bool false) g9 n122)) (
aRet K (.bool false) g6 n109)) (
aRet K (.bool false) g n)

def bellowslaw17_TraceOf_l8 (C : CT) (K : Cont) (I_l8 : ECont) (t : Env) (g : G) (n : Nat) : Prop :=
kLen (t 0) fun v71 =>
kBin .int .lss (t 11) v71 fun v72 =>
kSplit v72 (
kIndexAddr (t 0) (t 11) 5 fun v77 =>
kPtr v77 fun l78 o78 =>
kLd g l78 (o78 + 0) fun v79 =>
kBin .int .lss v79 (.int .i64 (-1)) fun v80 =>
kSplit v80 (
kBin .int .add (t 10) (.int .i64 1) fun v98 =>
bellowslaw17_TraceOf_j9 C K I_l8 (puts t [(69, (t 11)), (70, (t 0)), (71, v71), (72, v72), (75, (t 0)), (76, (t 11)), (77, v77), (78, (ptr l78 (o78 + 0))), (79, v79), (80, v80), (81, (.bool true)), (82, undef), (83, undef), (84, undef), (85, undef), (86, undef), (87, undef), (88, (.bool true)), (89, (.bool true)), (90, undef), (91, undef), (92, undef), (93, undef), (94, undef), (95, undef), (96, (.bool true)), (97, (t 10)), (98, v98), (10, v98)]) g n) (
kIndexAddr (t 0) (t 11) 5 fun v84 =>
kPtr v84 fun l85 o85 =>
kLd g l85 (o85 + 0) fun v86 =>
kBin .int .eql v86 (.int .i64 0) fun v87 =>
kSplit v87 (
kBin .int .add (t 10) (.int .i64 1) fun v98 =>
bellowslaw17_TraceOf_j9 C K I_l8 (puts t [(69, (t 11)), (70, (t 0)), (71, v71), (72, v72), (75, (t 0)), (76, (t 11)), (77, v77), (78, (ptr l78 (o78 + 0))), (79, v79), (80, v80), (81, (.bool false)), (82, (t 0)), (83, (t 11)), (84, v84), (85, (ptr l85 (o85 + 0))), (86, v86), (87, v87), (88, v87), (89, (.bool true)), (90, undef), (91, undef), (92, undef), (93, undef), (94, undef), (95, undef), (96, (.bool true)), (97, (t 10)), (98, v98), (10, v98)]) g n) (
kIndexAddr (t 0) (t 11) 5 fun v92 =>
kPtr v92 fun l93 o93 =>
kLd g l93 (o93 + 0) fun v94 =>
kBin .int .gtr v94 (.int .i64 20) fun v95 =>
kSplit v95 (
kBin .int .add (t 10) (.int .i64 1) fun v98 =>
bellowslaw17_TraceOf_j9 C K I_l8 (puts t [(69, (t 11)), (70, (t 0)), (71, v71), (72, v72), (75, (t 0)), (76, (t 11)), (77, v77), (78, (ptr l78 (o78 + 0))), (79, v79), (80, v80), (81, (.bool false)), (82, (t 0)), (83, (t 11)), (84, v84), (85, (ptr l85 (o85 + 0))), (86, v86), (87, v87), (88, v87), (89, (.bool false)), (90, (t 0)), (91, (t 11)), (92, v92), (93, (ptr l93 (o93 + 0))), (94, v94), (95, v95), (96, v95), (97, (t 10)), (98, v98), (10, v98)]) g n) (
bellowslaw17_TraceOf_j9 C K I_l8 (puts t [(69, (t 11)), (70, (t 0)), (71, v71), (72, v72), (75, (t 0)), (76, (t 11)), (77, v77), (78, (ptr l78 (o78 + 0))), (79, v79), (80, v80), (81, (.bool false)), (82, (t 0)), (83, (t 11)), (84, v84), (85, (ptr l85 (o85 + 0))), (86, v86), (87, v87), (88, v87), (89, (.bool false)), (90, (t 0)), (91, (t 11)), (92, v92), (93, (ptr l93 (o93 + 0))), (94, v94), (95, v95), (96, v95)]) g n)))) (
bellowslaw17_TraceOf_j10 C K (puts t [(69, (t 11)), (70, (t 0)), (71, v71), (72, v72)]) g n)

def bellowslaw17_TraceOf_j7 (C : CT) (K : Cont) (t : Env) (g : G) (n : Nat) : Prop :=
lfp (bellowslaw17_TraceOf_l8 C K) (puts t [(10, (.int .i64 0)), (11, (.int .i64 0))]) g n

def bellowslaw17_TraceOf_l1 (C : CT) (K : Cont) (I_l1 : ECont) (t : Env) (g : G) (n : Nat) : Prop :=
kBin .int .leq (t 6) (.int .i64 20) fun v17 =>
kSplit v17 (
kBin .int .eql (t 6) (.int .i64 0) fun v21 =>
kSplit v21 (
bellowslaw17_TraceOf_j2 C K I_l1 (puts t [(16, (t 6)), (17, v17), (20, (t 6)), (21, v21)]) g n) (
kFill (reps 0 [(.int .i64 0), (.int .i64 0), (.int .i64 0), (.int .i64 0), (.int .u64 0)]) [] fun c22 =>
kNew c22 .exact g n fun l22 g2 n22 =>
kAppend (.slice (some ⟨l22, 0, none⟩) 0 0) (t 0) 5 40 g2 n22 fun v24 g3 n24 =>
C trace_Of_id [v24, (t 6), (.int .i64 (-1))] g3 n24 fun v26 g4 n26 =>
kLen v26 fun v29 =>
kBin .int .add (t 5) v29 fun v30 =>
lfp (bellowslaw17_TraceOf_l3 C K I_l1) (puts t [(16, (t 6)), (17, v17), (20, (t 6)), (21, v21), (22, (.slice (some ⟨l22, 0, none⟩) 0 0)), (23, (t 0)), (24, v24), (25, (t 6)), (26, v26), (7, v26), (27, (t 5)), (28, v26), (29, v29), (30, v30), (5, v30), (8, (.int .i64 0)), (9, (.int .i64 0))]) g4 n26)) (
bellowslaw17_TraceOf_j7 C K (puts t [(16, (t 6)), (17, v17)]) g n)

def bellowslaw17_TraceOf (C : CT) (a0 a1 : Value) (g : G) (n : Nat) (K : Cont) : Prop :=
kLen a0 fun v13 =>
kBin .int .gtr v13 (.int .i64 300) fun v14 =>
kSplit v14 (
C bellowslaw17_wakes_id [] g n fun v15 g1 n15 =>
aRet K v15 g1 n15) (
lfp (bellowslaw17_TraceOf_l1 C K) (puts (args0 [a0, a1]) [(4, (.bool false)), (12, a0), (13, v13), (14, v14), (5, (.int .i64 0)), (6, (.int .i64 (-1)))]) g n)

theorem bellowslaw17_TraceOf_eq (C : CT) (a0 a1 : Value) (g : G) (n : Nat) (K : Cont) : bellowslaw17_TraceOf C a0 a1 g n K = abody Try.prog C bellowslaw17_TraceOf_id [a0, a1] g n K := by kernel_rfl

/- bellows/bellowslaw17.wakes -/
def bellowslaw17_wakes (C : CT) (g : G) (n : Nat) (K : Cont) : Prop :=
kFill [(.int .i64 0), (.int .i64 0), (.int .i64 0), (.int .i64 0), (.int .u64 0)] [(0, none, (.int .i64 8)), (1, none, (.int .i64 1)), (4, none, (.int .u64 5))] fun c3 =>
kFill [(.int .i64 0), (.int .i64 0), (.int .i64 0), (.int .i64 0), (.int .u64 0)] [(0, none, (.int .i64 11))] fun c4 =>
kFill [(.int .i64 0), (.int .i64 0), (.int .i64 0), (.int .i64 0), (.int .u64 0)] [(0, none, (.int .i64 3)), (2, none, (.int .i64 2)), (3, none, (.int .i64 3)), (4, none, (.int .u64 7))] fun c5 =>
kFill (reps 3 [(.int .i64 0), (.int .i64 0), (.int .i64 0), (.int .i64 0), (.int .u64 0)]) [(0, (some 5), (.agg c3.toArray)), (5, (some 5), (.agg c4.toArray)), (10, (some 5), (.agg c5.toArray))] fun c6 =>
kNew c6 .exact g n fun l6 g1 n6 =>
C trace_Cut_id [(.slice (some ⟨l6, 0, none⟩) 3 3)] g1 n6 fun v8 g2 n8 =>
kLen v8 fun v10 =>
kBin .int .eql v10 (.int .i64 2) fun v11 =>
kSplit v11 (
kIndexAddr v8 (.int .i64 0) 1 fun v14 =>
kPtr v14 fun l15 o15 =>
kLd g2 l15 o15 fun v15 =>
kLen v15 fun v16 =>
kBin .int .eql v16 (.int .i64 1) fun v17 =>
kSplit v17 (
kIndexAddr v8 (.int .i64 1) 1 fun v21 =>
kPtr v21 fun l22 o22 =>
kLd g2 l22 o22 fun v22 =>
kLen v22 fun v23 =>
kBin .int .eql v23 (.int .i64 1) fun v24 =>
kSplit v24 (
C trace_Tells_id [(.slice (some ⟨l6, 0, none⟩) 3 3), (.int .i64 1)] g2 n8 fun v28 g3 n28 =>
kFill (reps 1 [(.int .u64 0)]) [(0, none, (.int .u64 5))] fun c29 =>
kNew c29 .exact g3 n28 fun l29 g4 n29 =>
C bellowskeep_Words_id [v28, (.slice (some ⟨l29, 0, none⟩) 1 1)] g4 n29 fun v30 g5 n30 =>
kSplit v30 (
C trace_Stores_id [(.slice (some ⟨l6, 0, none⟩) 3 3), (.int .i64 2), (.int .i64 3)] g5 n30 fun v34 g6 n34 =>
kFill (reps 1 [(.int .u64 0)]) [(0, none, (.int .u64 7))] fun c35 =>
kNew c35 .exact g6 n34 fun l35 g7 n35 =>
C bellowskeep_Words_id [v34, (.slice (some ⟨l35, 0, none⟩) 1 1)] g7 n35 fun v36 g8 n36 =>
kSplit v36 (
C trace_Of_id [(.slice (some ⟨l6, 0, none⟩) 3 3), (.int .i64 0), (.int .i64 (-1))] g8 n36 fun v40 g9 n40 =>
kLen v40 fun v41 =>
kBin .int .eql v41 (.int .i64 3) fun v42 =>
kSplit v42 (
C trace_Same_id [(.slice (some ⟨l6, 0, none⟩) 3 3), (.slice (some ⟨l6, 0, none⟩) 3 3)] g9 n40 fun v47 g10 n47 =>
aRet K v47 g10 n47) (
aRet K (.bool false) g9 n40)) (
aRet K (.bool false) g8 n36)) (
aRet K (.bool false) g5 n30)) (
aRet K (.bool false) g2 n8)) (
aRet K (.bool false) g2 n8)) (
aRet K (.bool false) g2 n8)

theorem bellowslaw17_wakes_eq (C : CT) (g : G) (n : Nat) (K : Cont) : bellowslaw17_wakes C g n K = abody Try.prog C bellowslaw17_wakes_id [] g n K := by kernel_rfl

/- bellows/trace.Cut -/
def trace_Cut_l1 (C : CT) (K : Cont) (I_l1 : ECont) (t : Env) (g : G) (n : Nat) : Prop :=
kBin .int .lss (t 10) (t 9) fun v11 =>
kSplit v11 (
kIndexAddr (t 8) (t 10) 5 fun v12 =>
kPtr v12 fun l13 o13 =>
kLdN g l13 o13 5 fun c13 =>
kNew [(.int .i64 0), (.int .i64 0), (.int .i64 0), (.int .i64 0), (.int .u64 0)] .exact g n fun l5 g2 n5 =>
kAgg (.agg c13.toArray) fun cg3 =>
cg3.length = 5 ∧ kStN g2 l5 0 cg3 fun g3 =>
kLd g3 l5 (0 + 0) fun v15 =>
kBin .int .eql v15 (.int .i64 11) fun v16 =>
kSplit v16 (
kFill (reps 1 [(.slice none 0 0)]) [(0, none, (.slice none 0 0))] fun c18 =>
kNew c18 .exact g3 n5 fun l18 g4 n18 =>
kAppend (t 3) (.slice (some ⟨l18, 0, none⟩) 1 1) 1 24 g4 n18 fun v19 g5 n19 =>
kBin .int .add (t 10) (.int .i64 1) fun v33 =>
I_l1 (puts t [(11, v11), (12, v12), (13, (.agg c13.toArray)), (5, (ptr l5 0)), (14, (ptr l5 (0 + 0))), (15, v15), (16, v16), (17, (t 3)), (18, (.slice (some ⟨l18, 0, none⟩) 1 1)), (19, v19), (3, v19), (33, v33), (10, v33)]) g5 n19) (
kLen (t 3) fun v21 =>
kBin .int .sub v21 (.int .i64 1) fun v22 =>
kIndexAddr (t 3) v22 1 fun v27 =>
kPtr v27 fun l28 o28 =>
kLd g3 l28 o28 fun v28 =>
kLdN g3 l5 0 5 fun c29 =>
kFill (reps 1 [(.int .i64 0), (.int .i64 0), (.int .i64 0), (.int .i64 0), (.int .u64 0)]) [(0, (some 5), (.agg c29.toArray))] fun c30 =>
kNew c30 .exact g3 n5 fun l30 g6 n30 =>
(kPtr v27 fun l _ => g6 l = g3 l) ∧ kAppend v28 (.slice (some ⟨l30, 0, none⟩) 1 1) 5 40 g6 n30 fun v31 g7 n31 =>
kIndexAddr (t 3) v22 1 fun v32 =>
kPtr v32 fun lg8 og8 =>
kSt g7 lg8 og8 v31 fun g8 =>
kBin .int .add (t 10) (.int .i64 1) fun v33 =>
I_l1 (puts t [(11, v11), (12, v12), (13, (.agg c13.toArray)), (5, (ptr l5 0)), (14, (ptr l5 (0 + 0))), (15, v15), (16, v16), (20, (t 3)), (21, v21), (22, v22), (6, v22), (23, (t 3)), (24, v22), (25, (t 3)), (26, v22), (27, v27), (28, v28), (29, (.agg c29.toArray)), (30, (.slice (some ⟨l30, 0, none⟩) 1 1)), (31, v31), (32, v32), (33, v33), (10, v33)]) g8 n31)) (
aRet K (t 3) g n)

def trace_Cut (C : CT) (a0 : Value) (g : G) (n : Nat) (K : Cont) : Prop :=
kFill (reps 1 [(.slice none 0 0)]) [(0, none, (.slice none 0 0))] fun c7 =>
kNew c7 .exact g n fun l7 g1 n7 =>
kLen a0 fun v9 =>
lfp (trace_Cut_l1 C K) (puts (args0 [a0]) [(2, (.slice none 0 0)), (7, (.slice (some ⟨l7, 0, none⟩) 1 1)), (3, (.slice (some ⟨l7, 0, none⟩) 1 1)), (8, a0), (9, v9), (10, (.int .i64 0))]) g1 n7

theorem trace_Cut_eq (C : CT) (a0 : Value) (g : G) (n : Nat) (K : Cont) : trace_Cut C a0 g n K = abody Try.prog C trace_Cut_id [a0] g n K := by kernel_rfl

/- bellows/trace.Of -/
def trace_Of (C : CT) (a0 a1 a2 : Value) (g : G) (n : Nat) (K : Cont) : Prop :=
isCell a1 = true ∧ kNew [a1] .exact g n fun l4 g1 n4 =>
isCell a2 = true ∧ kNew [a2] .exact g1 n4 fun l5 g2 n5 =>
C trace_chosen_api_Event_api_Event_id [a0, (.func (.func trace_Of_1_id) #[] #[(ptr l4 0), (ptr l5 0)]), (.func (.func trace_itself_id) #[] #[])] g2 n5 fun v9 g3 n9 =>
aRet K v9 g3 n9

theorem trace_Of_eq (C : CT) (a0 a1 a2 : Value) (g : G) (n : Nat) (K : Cont) : trace_Of C a0 a1 a2 g n K = abody Try.prog C trace_Of_id [a0, a1, a2] g n K := by kernel_rfl

/- bellows/bellowskeep.Words -/
def bellowskeep_Words_l1 (C : CT) (K : Cont) (I_l1 : ECont) (t : Env) (g : G) (n : Nat) : Prop :=
kLen (t 0) fun v13 =>
kBin .int .lss (t 5) v13 fun v14 =>
kSplit v14 (
kIndexAddr (t 0) (t 5) 1 fun v19 =>
kPtr v19 fun l20 o20 =>
kLd g l20 o20 fun v20 =>
kIndexAddr (t 1) (t 5) 1 fun v23 =>
kPtr v23 fun l24 o24 =>
kLd g l24 o24 fun v24 =>
kBin .int .neq v20 v24 fun v25 =>
kSplit v25 (
aRet K (.bool false) g n) (
kBin .int .add (t 5) (.int .i64 1) fun v16 =>
I_l1 (puts t [(11, (t 5)), (12, (t 0)), (13, v13), (14, v14), (17, (t 0)), (18, (t 5)), (19, v19), (20, v20), (21, (t 1)), (22, (t 5)), (23, v23), (24, v24), (25, v25), (15, (t 5)), (16, v16), (5, v16)]) g n)) (
aRet K (.bool true) g n)

def bellowskeep_Words (C : CT) (a0 a1 : Value) (g : G) (n : Nat) (K : Cont) : Prop :=
kLen a0 fun v7 =>
kLen a1 fun v9 =>
kBin .int .neq v7 v9 fun v10 =>
kSplit v10 (
aRet K (.bool false) g n) (
lfp (bellowskeep_Words_l1 C K) (puts (args0 [a0, a1]) [(4, (.bool false)), (6, a0), (7, v7), (8, a1), (9, v9), (10, v10), (5, (.int .i64 0))]) g n)

theorem bellowskeep_Words_eq (C : CT) (a0 a1 : Value) (g : G) (n : Nat) (K : Cont) : bellowskeep_Words C a0 a1 g n K = abody Try.prog C bellowskeep_Words_id [a0, a1] g n K := by kernel_rfl

/- bellows/trace.Tells -/
def trace_Tells (C : CT) (a0 a1 : Value) (g : G) (n : Nat) (K : Cont) : Prop :=
isCell a1 = true ∧ kNew [a1] .exact g n fun l3 g1 n3 =>
C trace_chosen_api_Event_uint64_id [a0, (.func (.func trace_Tells_1_id) #[] #[(ptr l3 0)]), (.func (.func trace_val_id) #[] #[])] g1 n3 fun v7 g2 n7 =>
aRet K v7 g2 n7

theorem trace_Tells_eq (C : CT) (a0 a1 : Value) (g : G) (n : Nat) (K : Cont) : trace_Tells C a0 a1 g n K = abody Try.prog C trace_Tells_id [a0, a1] g n K := by kernel_rfl

/- bellows/trace.Same -/
def trace_Same (C : CT) (a0 a1 : Value) (g : G) (n : Nat) (K : Cont) : Prop :=
C slices_Equal_api_Event_api_Event_id [a0, a1] g n fun v7 g1 n7 =>
aRet K v7 g1 n7

theorem trace_Same_eq (C : CT) (a0 a1 : Value) (g : G) (n : Nat) (K : Cont) : trace_Same C a0 a1 g n K = abody Try.prog C trace_Same_id [a0, a1] g n K := by kernel_rfl

/- bellows/bellowslaw17.told -/
def bellowslaw17_told_j2 (C : CT) (K : Cont) (I_l1 : ECont) (t : Env) (g : G) (n : Nat) : Prop :=
kBin .int .add (t 6) (.int .i64 1) fun v12 =>
I_l1 (puts t [(11, (t 6)), (12, v12), (6, v12)]) g n

def bellowslaw17_told_l1 (C : CT) (K : Cont) (I_l1 : ECont) (t : Env) (g : G) (n : Nat) : Prop :=
kLen (t 0) fun v9 =>
kBin .int .lss (t 6) v9 fun v10 =>
kSplit v10 (
kBin .int .eql (t 1) (.int .i64 (-1)) fun v14 =>
kSplit v14 (
kIndexAddr (t 0) (t 6) 5 fun v18 =>
kPtr v18 fun l19 o19 =>
kLd g l19 (o19 + 0) fun v20 =>
kBin .int .eql v20 (.int .i64 8) fun v21 =>
kSplit v21 (
kIndexAddr (t 0) (t 6) 5 fun v26 =>
kPtr v26 fun l27 o27 =>
kLd g l27 (o27 + 1) fun v28 =>
kBin .int .neq v28 (.int .i64 (-1)) fun v29 =>
kSplit v29 (
kBin .int .add (t 5) (.int .i64 1) fun v32 =>
bellowslaw17_told_j2 C K I_l1 (puts t [(7, (t 6)), (8, (t 0)), (9, v9), (10, v10), (13, (t 1)), (14, v14), (15, (.bool true)), (16, (t 0)), (17, (t 6)), (18, v18), (19, (ptr l19 (o19 + 0))), (20, v20), (21, v21), (22, v21), (23, (.bool true)), (24, (t 0)), (25, (t 6)), (26, v26), (27, (ptr l27 (o27 + 1))), (28, v28), (29, v29), (30, v29), (31, (t 5)), (32, v32), (5, v32)]) g n) (
bellowslaw17_told_j2 C K I_l1 (puts t [(7, (t 6)), (8, (t 0)), (9, v9), (10, v10), (13, (t 1)), (14, v14), (15, (.bool true)), (16, (t 0)), (17, (t 6)), (18, v18), (19, (ptr l19 (o19 + 0))), (20, v20), (21, v21), (22, v21), (23, (.bool true)), (24, (t 0)), (25, (t 6)), (26, v26), (27, (ptr l27 (o27 + 1))), (28, v28), (29, v29), (30, v29)]) g n)) (
bellowslaw17_told_j2 C K I_l1 (puts t [(7, (t 6)), (8, (t 0)), (9, v9), (10, v10), (13, (t 1)), (14, v14), (15, (.bool true)), (16, (t 0)), (17, (t 6)), (18, v18), (19, (ptr l19 (o19 + 0))), (20, v20), (21, v21), (22, v21), (23, (.bool false)), (24, undef), (25, undef), (26, undef), (27, undef), (28, undef), (29, undef), (30, (.bool false))]) g n)) (
bellowslaw17_told_j2 C K I_l1 (puts t [(7, (t 6)), (8, (t 0)), (9, v9), (10, v10), (13, (t 1)), (14, v14), (15, (.bool false)), (16, undef), (17, undef), (18, undef), (19, undef), (20, undef), (21, undef), (22, (.bool false)), (23, (.bool false)), (24, undef), (25, undef), (26, undef), (27, undef), (28, undef), (29, undef), (30, (.bool false))]) g n)) (
aRet K (t 5) g n)

def bellowslaw17_told (C : CT) (a0 a1 : Value) (g : G) (n : Nat) (K : Cont) : Prop :=
lfp (bellowslaw17_told_l1 C K) (puts (args0 [a0, a1]) [(4, (.int .i64 0)), (5, (.int .i64 0)), (6, (.int .i64 0))]) g n

theorem bellowslaw17_told_eq (C : CT) (a0 a1 : Value) (g : G) (n : Nat) (K : Cont) : bellowslaw17_told C a0 a1 g n K = abody Try.prog C bellowslaw17_told_id [a0, a1] g n K := by kernel_rfl

/- bellows/trace.Stores -/
def trace_Stores (C : CT) (a0 a1 a2 : Value) (g : G) (n : Nat) (K : Cont) : Prop :=
isCell a1 = true ∧ kNew [a1] .exact g n fun l4 g1 n4 =>
isCell a2 = true ∧ kNew [a2] .exact g1 n4 fun l5 g2 n5 =>
C trace_chosen_api_Event_uint64_id [a0, (.func (.func trace_Stores_1_id) #[] #[(ptr l4 0), (ptr l5 0)]), (.func (.func trace_val_id) #[] #[])] g2 n5 fun v9 g3 n9 =>
aRet K v9 g3 n9

theorem trace_Stores_eq (C : CT) (a0 a1 a2 : Value) (g : G) (n : Nat) (K : Cont) : trace_Stores C a0 a1 a2 g n K = abody Try.prog C trace_Stores_id [a0, a1, a2] g n K := by kernel_rfl

/- bellows/trace.chosen[bellows/api.Event,bellows/api.Event] -/
def trace_chosen_api_Event_api_Event_l1 (C : CT) (K : Cont) (I_l1 : ECont) (t : Env) (g : G) (n : Nat) : Prop :=
kBin .int .lss (t 12) (t 11) fun v13 =>
kSplit v13 (
kIndexAddr (t 10) (t 12) 5 fun v14 =>
kPtr v14 fun l15 o15 =>
kLdN g l15 o15 5 fun c15 =>
kNew [(.int .i64 0), (.int .i64 0), (.int .i64 0), (.int .i64 0), (.int .u64 0)] .exact g n fun l9 g1 n9 =>
kAgg (.agg c15.toArray) fun cg2 =>
cg2.length = 5 ∧ kStN g1 l9 0 cg2 fun g2 =>
kLdN g2 l9 0 5 fun c17 =>
kCall C (t 1) [(.agg c17.toArray)] g2 n9 fun v18 g3 n18 =>
kSplit v18 (
kLdN g3 l9 0 5 fun c21 =>
kCall C (t 2) [(.agg c21.toArray)] g3 n18 fun v22 g4 n22 =>
kFill (reps 1 [(.int .i64 0), (.int .i64 0), (.int .i64 0), (.int .i64 0), (.int .u64 0)]) [(0, (some 5), v22)] fun c23 =>
kNew c23 .exact g4 n22 fun l23 g5 n23 =>
kAppend (t 7) (.slice (some ⟨l23, 0, none⟩) 1 1) 5 40 g5 n23 fun v24 g6 n24 =>
kBin .int .add (t 12) (.int .i64 1) fun v25 =>
I_l1 (puts t [(13, v13), (14, v14), (15, (.agg c15.toArray)), (9, (ptr l9 0)), (16, (t 1)), (17, (.agg c17.toArray)), (18, v18), (19, (t 7)), (20, (t 2)), (21, (.agg c21.toArray)), (22, v22), (23, (.slice (some ⟨l23, 0, none⟩) 1 1)), (24, v24), (7, v24), (25, v25), (12, v25)]) g6 n24) (
kBin .int .add (t 12) (.int .i64 1) fun v25 =>
I_l1 (puts t [(13, v13), (14, v14), (15, (.agg c15.toArray)), (9, (ptr l9 0)), (16, (t 1)), (17, (.agg c17.toArray)), (18, v18), (25, v25), (12, v25)]) g3 n18)) (
aRet K (t 7) g n)

def trace_chosen_api_Event_api_Event (C : CT) (a0 a1 a2 : Value) (g : G) (n : Nat) (K : Cont) : Prop :=
kLen a0 fun v11 =>
lfp (trace_chosen_api_Event_api_Event_l1 C K) (puts (args0 [a0, a1, a2]) [(6, (.slice none 0 0)), (7, (.slice none 0 0)), (10, a0), (11, v11), (12, (.int .i64 0))]) g n

theorem trace_chosen_api_Event_api_Event_eq (C : CT) (a0 a1 a2 : Value) (g : G) (n : Nat) (K : Cont) : trace_chosen_api_Event_api_Event C a0 a1 a2 g n K = abody Try.prog C trace_chosen_api_Event_api_Event_id [a0, a1, a2] g n K := by kernel_rfl

/- bellows/trace.Of$1 -/
def trace_Of_1 (C : CT) (a0 a1 a2 : Value) (g : G) (n : Nat) (K : Cont) : Prop :=
kAgg a0 fun c3 =>
kNew c3 .exact g n fun l3 g1 n3 =>
kPtr a1 fun l5 o5 =>
kLd g1 l5 o5 fun v5 =>
kBin .int .eql v5 (.int .i64 0) fun v6 =>
kSplit v6 (
kPtr a2 fun l14 o14 =>
kLd g1 l14 o14 fun v14 =>
kBin .int .eql v14 (.int .i64 (-1)) fun v15 =>
kSplit v15 (
aRet K (.bool true) g1 n3) (
kLd g1 l3 (0 + 1) fun v18 =>
kPtr a2 fun l19 o19 =>
kLd g1 l19 o19 fun v19 =>
kBin .int .eql v18 v19 fun v20 =>
aRet K v20 g1 n3)) (
kLd g1 l3 (0 + 0) fun v9 =>
kPtr a1 fun l10 o10 =>
kLd g1 l10 o10 fun v10 =>
kBin .int .eql v9 v10 fun v11 =>
kSplit v11 (
kPtr a2 fun l14 o14 =>
kLd g1 l14 o14 fun v14 =>
kBin .int .eql v14 (.int .i64 (-1)) fun v15 =>
kSplit v15 (
aRet K (.bool true) g1 n3) (
kLd g1 l3 (0 + 1) fun v18 =>
kPtr a2 fun l19 o19 =>
kLd g1 l19 o19 fun v19 =>
kBin .int .eql v18 v19 fun v20 =>
aRet K v20 g1 n3)) (
aRet K (.bool false) g1 n3))

theorem trace_Of_1_eq (C : CT) (a0 a1 a2 : Value) (g : G) (n : Nat) (K : Cont) : trace_Of_1 C a0 a1 a2 g n K = abody Try.prog C trace_Of_1_id [a0, a1, a2] g n K := by kernel_rfl

/- bellows/trace.itself -/
def trace_itself (C : CT) (a0 : Value) (g : G) (n : Nat) (K : Cont) : Prop :=
kAgg a0 fun c1 =>
kNew c1 .exact g n fun l1 g1 n1 =>
kNew [(.int .i64 0), (.int .i64 0), (.int .i64 0), (.int .i64 0), (.int .u64 0)] .exact g1 n1 fun l2 g2 n2 =>
kLdN g2 l1 0 5 fun c3 =>
kAgg (.agg c3.toArray) fun cg3 =>
cg3.length = 5 ∧ kStN g2 l2 0 cg3 fun g3 =>
kLdN g3 l2 0 5 fun r0 =>
aRet K (.agg r0.toArray) g3 n2

theorem trace_itself_eq (C : CT) (a0 : Value) (g : G) (n : Nat) (K : Cont) : trace_itself C a0 g n K = abody Try.prog C trace_itself_id [a0] g n K := by kernel_rfl

/- bellows/trace.chosen[bellows/api.Event,uint64] -/
def trace_chosen_api_Event_uint64_l1 (C : CT) (K : Cont) (I_l1 : ECont) (t : Env) (g : G) (n : Nat) : Prop :=
kBin .int .lss (t 12) (t 11) fun v13 =>
kSplit v13 (
kIndexAddr (t 10) (t 12) 5 fun v14 =>
kPtr v14 fun l15 o15 =>
kLdN g l15 o15 5 fun c15 =>
kNew [(.int .i64 0), (.int .i64 0), (.int .i64 0), (.int .i64 0), (.int .u64 0)] .exact g n fun l9 g1 n9 =>
kAgg (.agg c15.toArray) fun cg2 =>
cg2.length = 5 ∧ kStN g1 l9 0 cg2 fun g2 =>
kLdN g2 l9 0 5 fun c17 =>
kCall C (t 1) [(.agg c17.toArray)] g2 n9 fun v18 g3 n18 =>
kSplit v18 (
kLdN g3 l9 0 5 fun c21 =>
kCall C (t 2) [(.agg c21.toArray)] g3 n18 fun v22 g4 n22 =>
kFill (reps 1 [(.int .u64 0)]) [(0, none, v22)] fun c23 =>
kNew c23 .exact g4 n22 fun l23 g5 n23 =>
kAppend (t 7) (.slice (some ⟨l23, 0, none⟩) 1 1) 1 8 g5 n23 fun v24 g6 n24 =>
kBin .int .add (t 12) (.int .i64 1) fun v25 =>
I_l1 (puts t [(13, v13), (14, v14), (15, (.agg c15.toArray)), (9, (ptr l9 0)), (16, (t 1)), (17, (.agg c17.toArray)), (18, v18), (19, (t 7)), (20, (t 2)), (21, (.agg c21.toArray)), (22, v22), (23, (.slice (some ⟨l23, 0, none⟩) 1 1)), (24, v24), (7, v24), (25, v25), (12, v25)]) g6 n24) (
kBin .int .add (t 12) (.int .i64 1) fun v25 =>
I_l1 (puts t [(13, v13), (14, v14), (15, (.agg c15.toArray)), (9, (ptr l9 0)), (16, (t 1)), (17, (.agg c17.toArray)), (18, v18), (25, v25), (12, v25)]) g3 n18)) (
aRet K (t 7) g n)

def trace_chosen_api_Event_uint64 (C : CT) (a0 a1 a2 : Value) (g : G) (n : Nat) (K : Cont) : Prop :=
kLen a0 fun v11 =>
lfp (trace_chosen_api_Event_uint64_l1 C K) (puts (args0 [a0, a1, a2]) [(6, (.slice none 0 0)), (7, (.slice none 0 0)), (10, a0), (11, v11), (12, (.int .i64 0))]) g n

theorem trace_chosen_api_Event_uint64_eq (C : CT) (a0 a1 a2 : Value) (g : G) (n : Nat) (K : Cont) : trace_chosen_api_Event_uint64 C a0 a1 a2 g n K = abody Try.prog C trace_chosen_api_Event_uint64_id [a0, a1, a2] g n K := by kernel_rfl

/- bellows/trace.Tells$1 -/
def trace_Tells_1 (C : CT) (a0 a1 : Value) (g : G) (n : Nat) (K : Cont) : Prop :=
kAgg a0 fun c2 =>
kNew c2 .exact g n fun l2 g1 n2 =>
kLd g1 l2 (0 + 0) fun v5 =>
kBin .int .eql v5 (.int .i64 8) fun v6 =>
kSplit v6 (
kLd g1 l2 (0 + 1) fun v9 =>
kPtr a1 fun l10 o10 =>
kLd g1 l10 o10 fun v10 =>
kBin .int .eql v9 v10 fun v11 =>
aRet K v11 g1 n2) (
aRet K (.bool false) g1 n2)

theorem trace_Tells_1_eq (C : CT) (a0 a1 : Value) (g : G) (n : Nat) (K : Cont) : trace_Tells_1 C a0 a1 g n K = abody Try.prog C trace_Tells_1_id [a0, a1] g n K := by kernel_rfl

/- bellows/trace.val -/
def trace_val (C : CT) (a0 : Value) (g : G) (n : Nat) (K : Cont) : Prop :=
kAgg a0 fun c1 =>
kNew c1 .exact g n fun l1 g1 n1 =>
kLd g1 l1 (0 + 4) fun v4 =>
aRet K v4 g1 n1

theorem trace_val_eq (C : CT) (a0 : Value) (g : G) (n : Nat) (K : Cont) : trace_val C a0 g n K = abody Try.prog C trace_val_id [a0] g n K := by kernel_rfl

/- slices.Equal[[]bellows/api.Event,bellows/api.Event] -/
def slices_Equal_api_Event_api_Event_l1 (C : CT) (K : Cont) (I_l1 : ECont) (t : Env) (g : G) (n : Nat) : Prop :=
kBin .int .lss (t 13) (t 12) fun v14 =>
kSplit v14 (
kIndexAddr (t 0) (t 13) 5 fun v18 =>
kPtr v18 fun l19 o19 =>
kLdN g l19 o19 5 fun c19 =>
kIndexAddr (t 1) (t 13) 5 fun v22 =>
kPtr v22 fun l23 o23 =>
kLdN g l23 o23 5 fun c23 =>
kBin (.agg [.i, .i, .i, .i, .i]) .neq (.agg c19.toArray) (.agg c23.toArray) fun v24 =>
kSplit v24 (
aRet K (.bool false) g n) (
kBin .int .add (t 13) (.int .i64 1) fun v25 =>
I_l1 (puts t [(14, v14), (15, (t 13)), (5, (t 13)), (16, (t 0)), (17, (t 13)), (18, v18), (19, (.agg c19.toArray)), (20, (t 1)), (21, (t 13)), (22, v22), (23, (.agg c23.toArray)), (24, v24), (25, v25), (13, v25)]) g n)) (
aRet K (.bool true) g n)

def slices_Equal_api_Event_api_Event (C : CT) (a0 a1 : Value) (g : G) (n : Nat) (K : Cont) : Prop :=
kLen a0 fun v7 =>
kLen a1 fun v9 =>
kBin .int .neq v7 v9 fun v10 =>
kSplit v10 (
aRet K (.bool false) g n) (
kLen a0 fun v12 =>
lfp (slices_Equal_api_Event_api_Event_l1 C K) (puts (args0 [a0, a1]) [(4, (.bool false)), (6, a0), (7, v7), (8, a1), (9, v9), (10, v10), (11, a0), (12, v12), (13, (.int .i64 0))]) g n)

theorem slices_Equal_api_Event_api_Event_eq (C : CT) (a0 a1 : Value) (g : G) (n : Nat) (K : Cont) : slices_Equal_api_Event_api_Event C a0 a1 g n K = abody Try.prog C slices_Equal_api_Event_api_Event_id [a0, a1] g n K := by kernel_rfl

/- bellows/trace.Stores$1 -/
def trace_Stores_1 (C : CT) (a0 a1 a2 : Value) (g : G) (n : Nat) (K : Cont) : Prop :=
kAgg a0 fun c3 =>
kNew c3 .exact g n fun l3 g1 n3 =>
kLd g1 l3 (0 + 0) fun v6 =>
kBin .int .eql v6 (.int .i64 3) fun v7 =>
kSplit v7 (
kLd g1 l3 (0 + 2) fun v10 =>
kPtr a1 fun l11 o11 =>
kLd g1 l11 o11 fun v11 =>
kBin .int .eql v10 v11 fun v12 =>
kSplit v12 (
kLd g1 l3 (0 + 3) fun v16 =>
kPtr a2 fun l17 o17 =>
kLd g1 l17 o17 fun v17 =>
kBin .int .eql v16 v17 fun v18 =>
aRet K v18 g1 n3) (
aRet K (.bool false) g1 n3)) (
aRet K (.bool false) g1 n3)

theorem trace_Stores_1_eq (C : CT) (a0 a1 a2 : Value) (g : G) (n : Nat) (K : Cont) : trace_Stores_1 C a0 a1 a2 g n K = abody Try.prog C trace_Stores_1_id [a0, a1, a2] g n K := by kernel_rfl

end Go.Proofs.Ytncodeibkmekmaa.Gen
