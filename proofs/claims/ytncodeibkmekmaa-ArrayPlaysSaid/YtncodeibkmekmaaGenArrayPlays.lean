import Derived.Test.YtncodeibkmekmaaProg
import Derived.KernelRfl
import Derived.Test.YtncodeibkmekmaaAbsC
/- What the machine comes to on each function, printed by program; each equation is checked by the kernel. -/
set_option linter.all false
set_option linter.deprecated false
namespace Go.Proofs.Ytncodeibkmekmaa.Gen
open Go Go.Proofs.Ytncodeibkmekmaa.Abs

def bellowslaw17_TraceWhole_id : FuncId := 3
def bellowslaw17_TraceOf_id : FuncId := 4
def bellowslaw19_PersistMoments_id : FuncId := 5
def bellowslaw05_ArrayKeeps_id : FuncId := 6
def bellowslaw05_ArrayPlays_id : FuncId := 7
def bellowslaw05_ArrayOnce_id : FuncId := 8
def bellowslaw05_ArrayLast_id : FuncId := 10
def bellowslaw17_wakes_id : FuncId := 11
def trace_Cut_id : FuncId := 12
def trace_Of_id : FuncId := 13
def bellowskeep_Words_id : FuncId := 14
def trace_Tells_id : FuncId := 15
def trace_Same_id : FuncId := 16
def bellowslaw17_told_id : FuncId := 17
def bellowslaw19_wakes_id : FuncId := 18
def persist_Sure_id : FuncId := 19
def persist_History_id : FuncId := 20
def persist_May_id : FuncId := 21
def array_New_id : FuncId := 22
def bellowslaw05_wakes_id : FuncId := 23
def array_Array_Set_id : FuncId := 24
def array_Array_Room_id : FuncId := 25
def array_Array_Drop_id : FuncId := 26
def array_Array_Find_id : FuncId := 27
def bellowsref05_New_id : FuncId := 28
def bellowsref05_Array_Set_id : FuncId := 29
def array_Array_Touch_id : FuncId := 30
def bellowsref05_Array_Touch_id : FuncId := 31
def bellowsref05_Array_Drop_id : FuncId := 32
def bellowsref05_Array_At_id : FuncId := 33
def bellowslaw05_Same_id : FuncId := 34
def bellowsref05_Array_Free_id : FuncId := 35
def bellowsref05_Array_Victim_id : FuncId := 36
def array_Array_Slots_id : FuncId := 37
def bellowsref05_Array_Slots_id : FuncId := 38
def bellowsref04_Set_id : FuncId := 39
def bellowskeep_Mod_id : FuncId := 40
def trace_Stores_id : FuncId := 41
def trace_chosen_api_Event_api_Event_id : FuncId := 42
def trace_Of_1_id : FuncId := 43
def trace_itself_id : FuncId := 44
def trace_chosen_api_Event_uint64_id : FuncId := 45
def trace_Tells_1_id : FuncId := 46
def trace_val_id : FuncId := 47
def slices_Equal_api_Event_api_Event_id : FuncId := 48
def bellowslaw19_store_id : FuncId := 49
def persist_Word_id : FuncId := 50
def persist_stores_id : FuncId := 51
def word_Put_id : FuncId := 52
def slices_Contains_api_Line_api_Line_id : FuncId := 53
def array_Array_at_id : FuncId := 54
def array_Array_set_id : FuncId := 55
def slices_IndexFunc_array_Slot_array_Slot_id : FuncId := 56
def array_empty_id : FuncId := 57
def array_Array_number_id : FuncId := 58
def bellowsref05_Array_first_id : FuncId := 59
def bellowsref05_rest_id : FuncId := 60
def slices_DeleteFunc_array_Slot_array_Slot_id : FuncId := 61
def slices_Clone_array_Slot_array_Slot_id : FuncId := 62
def trace_Stores_1_id : FuncId := 63
def slices_Contains_uint64_uint64_id : FuncId := 64
def slices_DeleteFunc_api_Event_api_Event_id : FuncId := 65
def persist_stores_1_id : FuncId := 66
def word_is_id : FuncId := 67
def slices_Index_api_Line_api_Line_id : FuncId := 68
def array_Array_at_1_id : FuncId := 69
def geom_Set_id : FuncId := 70
def slices_Index_uint64_uint64_id : FuncId := 71
def slices_IndexFunc_api_Event_api_Event_id : FuncId := 72

/- bellows/bellowslaw17.TraceWhole -/
def bellowslaw17_TraceWhole_j4 (C : CT) (K : Cont) (I_l1 : ECont) (t : Env) (g : G) (n : Nat) : Prop :=
kBin .int .add (t 9) (.int .i64 1) fun v37 =>
I_l1 (puts t [(36, (t 9)), (37, v37), (9, v37)]) g n

def bellowslaw17_TraceWhole_l3 (C : CT) (K : Cont) (I_l1 : ECont) (I_l3 : ECont) (t : Env) (g : G) (n : Nat) : Prop :=
kIndexAddr (t 7) (t 9) 1 fun v57 =>
kPtr v57 fun l58 o58 =>
kLd g l58 o58 fun v58 =>
kLen v58 fun v59 =>
kBin .int .lss (t 10) v59 fun v60 =>
kSplit v60 (
kLen (t 0) fun v65 =>
kBin .int .geq (t 8) v65 fun v66 =>
kSplit v66 (
aRet K (.bool false) g n) (
kIndexAddr (t 0) (t 8) 5 fun v70 =>
kPtr v70 fun l71 o71 =>
kLdN g l71 o71 5 fun c71 =>
kIndexAddr (t 7) (t 9) 1 fun v74 =>
kPtr v74 fun l75 o75 =>
kLd g l75 o75 fun v75 =>
kIndexAddr v75 (t 10) 5 fun v77 =>
kPtr v77 fun l78 o78 =>
kLdN g l78 o78 5 fun c78 =>
kBin (.agg [.i, .i, .i, .i, .i]) .neq (.agg c71.toArray) (.agg c78.toArray) fun v79 =>
kSplit v79 (
aRet K (.bool false) g n) (
kIndexAddr (t 7) (t 9) 1 fun v84 =>
kPtr v84 fun l85 o85 =>
kLd g l85 o85 fun v85 =>
kIndexAddr v85 (t 10) 5 fun v87 =>
kPtr v87 fun l88 o88 =>
kLd g l88 (o88 + 0) fun v89 =>
kBin .int .eql v89 (.int .i64 11) fun v90 =>
kSplit v90 (
aRet K (.bool false) g n) (
kBin .int .add (t 8) (.int .i64 1) fun v93 =>
kBin .int .add (t 10) (.int .i64 1) fun v62 =>
I_l3 (puts t [(54, (t 10)), (55, (t 7)), (56, (t 9)), (57, v57), (58, v58), (59, v59), (60, v60), (63, (t 8)), (64, (t 0)), (65, v65), (66, v66), (67, (.bool false)), (68, (t 0)), (69, (t 8)), (70, v70), (71, (.agg c71.toArray)), (72, (t 7)), (73, (t 9)), (74, v74), (75, v75), (76, (t 10)), (77, v77), (78, (.agg c78.toArray)), (79, v79), (80, v79), (81, (.bool false)), (82, (t 7)), (83, (t 9)), (84, v84), (85, v85), (86, (t 10)), (87, v87), (88, (ptr l88 (o88 + 0))), (89, v89), (90, v90), (91, v90), (92, (t 8)), (93, v93), (8, v93), (61, (t 10)), (62, v62), (10, v62)]) g n)))) (
bellowslaw17_TraceWhole_j4 C K I_l1 (puts t [(54, (t 10)), (55, (t 7)), (56, (t 9)), (57, v57), (58, v58), (59, v59), (60, v60)]) g n)

def bellowslaw17_TraceWhole_j2 (C : CT) (K : Cont) (I_l1 : ECont) (t : Env) (g : G) (n : Nat) : Prop :=
lfp (bellowslaw17_TraceWhole_l3 C K I_l1) (puts t [(10, (.int .i64 0))]) g n

def bellowslaw17_TraceWhole_j5 (C : CT) (K : Cont) (t : Env) (g : G) (n : Nat) : Prop :=
kFill (reps 0 [(.int .i64 0), (.int .i64 0), (.int .i64 0), (.int .i64 0), (.int .u64 0)]) [] fun c94 =>
kNew c94 .exact g n fun l94 g7 n94 =>
kAppend (.slice (some ⟨l94, 0, none⟩) 0 0) (t 0) 5 40 g7 n94 fun v96 g8 n96 =>
kAppend v96 (t 1) 5 40 g8 n96 fun v98 g9 n98 =>
kLen (t 0) fun v101 =>
kBin .int .eql (t 8) v101 fun v102 =>
kSplit v102 (
C trace_Tells_id [v98, (t 2)] g9 n98 fun v106 g10 n106 =>
kFill (reps 0 [(.int .u64 0)]) [] fun c107 =>
kNew c107 .exact g10 n106 fun l107 g11 n107 =>
C trace_Tells_id [(t 0), (t 2)] g11 n107 fun v110 g12 n110 =>
kAppend (.slice (some ⟨l107, 0, none⟩) 0 0) v110 1 8 g12 n110 fun v111 g13 n111 =>
C trace_Tells_id [(t 1), (t 2)] g13 n111 fun v114 g14 n114 =>
kAppend v111 v114 1 8 g14 n114 fun v115 g15 n115 =>
C bellowskeep_Words_id [v106, v115] g15 n115 fun v116 g16 n116 =>
kSplit v116 (
C bellowslaw17_wakes_id [] g16 n116 fun v119 g17 n119 =>
aRet K v119 g17 n119) (
aRet K (.bool false) g16 n116)) (
aRet K (.bool false) g9 n98)

def bellowslaw17_TraceWhole_l1 (C : CT) (K : Cont) (I_l1 : ECont) (t : Env) (g : G) (n : Nat) : Prop :=
kLen (t 7) fun v34 =>
kBin .int .lss (t 9) v34 fun v35 =>
kSplit v35 (
kBin .int .gtr (t 9) (.int .i64 0) fun v39 =>
kSplit v39 (
kLen (t 0) fun v42 =>
kBin .int .geq (t 8) v42 fun v43 =>
kSplit v43 (
aRet K (.bool false) g n) (
kIndexAddr (t 0) (t 8) 5 fun v47 =>
kPtr v47 fun l48 o48 =>
kLd g l48 (o48 + 0) fun v49 =>
kBin .int .neq v49 (.int .i64 11) fun v50 =>
kSplit v50 (
aRet K (.bool false) g n) (
kBin .int .add (t 8) (.int .i64 1) fun v53 =>
bellowslaw17_TraceWhole_j2 C K I_l1 (puts t [(32, (t 9)), (33, (t 7)), (34, v34), (35, v35), (38, (t 9)), (39, v39), (40, (t 8)), (41, (t 0)), (42, v42), (43, v43), (44, (.bool false)), (45, (t 0)), (46, (t 8)), (47, v47), (48, (ptr l48 (o48 + 0))), (49, v49), (50, v50), (51, v50), (52, (t 8)), (53, v53), (8, v53)]) g n))) (
bellowslaw17_TraceWhole_j2 C K I_l1 (puts t [(32, (t 9)), (33, (t 7)), (34, v34), (35, v35), (38, (t 9)), (39, v39)]) g n)) (
bellowslaw17_TraceWhole_j5 C K (puts t [(32, (t 9)), (33, (t 7)), (34, v34), (35, v35)]) g n)

def bellowslaw17_TraceWhole (C : CT) (a0 a1 a2 : Value) (g : G) (n : Nat) (K : Cont) : Prop :=
kLen a0 fun v13 =>
kBin .int .gtr v13 (.int .i64 500) fun v14 =>
kSplit v14 (
C bellowslaw17_wakes_id [] g n fun v20 g1 n20 =>
aRet K v20 g1 n20) (
kLen a1 fun v17 =>
kBin .int .gtr v17 (.int .i64 500) fun v18 =>
kSplit v18 (
C bellowslaw17_wakes_id [] g n fun v20 g2 n20 =>
aRet K v20 g2 n20) (
kFill (reps 0 [(.int .i64 0), (.int .i64 0), (.int .i64 0), (.int .i64 0), (.int .u64 0)]) [] fun c21 =>
kNew c21 .exact g n fun l21 g3 n21 =>
kAppend (.slice (some ⟨l21, 0, none⟩) 0 0) a0 5 40 g3 n21 fun v23 g4 n23 =>
C trace_Cut_id [v23] g4 n23 fun v24 g5 n24 =>
kLen v24 fun v26 =>
C trace_Of_id [a0, (.int .i64 11), (.int .i64 (-1))] g5 n24 fun v28 g6 n28 =>
kLen v28 fun v29 =>
kBin .int .add v29 (.int .i64 1) fun v30 =>
kBin .int .neq v26 v30 fun v31 =>
kSplit v31 (
aRet K (.bool false) g6 n28) (
lfp (bellowslaw17_TraceWhole_l1 C K) (puts (args0 [a0, a1, a2]) [(6, (.bool false)), (12, a0), (13, v13), (14, v14), (15, (.bool false)), (16, a1), (17, v17), (18, v18), (19, v18), (21, (.slice (some ⟨l21, 0, none⟩) 0 0)), (22, a0), (23, v23), (24, v24), (7, v24), (25, v24), (26, v26), (27, a0), (28, v28), (29, v29), (30, v30), (31, v31), (8, (.int .i64 0)), (9, (.int .i64 0))]) g6 n28)))

theorem bellowslaw17_TraceWhole_eq (C : CT) (a0 a1 a2 : Value) (g : G) (n : Nat) (K : Cont) : bellowslaw17_TraceWhole C a0 a1 a2 g n K = abody Try.prog C bellowslaw17_TraceWhole_id [a0, a1, a2] g n K := by kernel_rfl

/- bellows/bellowslaw17.TraceOf -/
def bellowslaw17_TraceOf_j2 (C : CT) (K : Cont) (I_l1 : ECont) (t : Env) (g : G) (n : Nat) : Prop :=
kBin .int .add (t 6) (.int .i64 1) fun v19 =>
I_l1 (puts t [(18, (t 6)), (19, v19), (6, v19)]) g n

def bellowslaw17_TraceOf_j6 (C : CT) (K : Cont) (I_l1 : ECont) (I_l3 : ECont) (t : Env) (g : G) (n : Nat) : Prop :=
kBin .int .add (t 9) (.int .i64 1) fun v36 =>
I_l3 (puts t [(35, (t 9)), (36, v36), (9, v36)]) g n

def bellowslaw17_TraceOf_j5 (C : CT) (K : Cont) (I_l1 : ECont) (I_l3 : ECont) (t : Env) (g : G) (n : Nat) : Prop :=
kLen (t 0) fun v56 =>
kBin .int .eql (t 8) v56 fun v57 =>
kSplit v57 (
aRet K (.bool false) g n) (
kIndexAddr (t 7) (t 9) 5 fun v61 =>
kPtr v61 fun l62 o62 =>
kLd g l62 (o62 + 0) fun v63 =>
kBin .int .neq v63 (t 6) fun v65 =>
kSplit v65 (
aRet K (.bool false) g n) (
kBin .int .add (t 8) (.int .i64 1) fun v68 =>
bellowslaw17_TraceOf_j6 C K I_l1 I_l3 (puts t [(54, (t 8)), (55, (t 0)), (56, v56), (57, v57), (58, (.bool false)), (59, (t 7)), (60, (t 9)), (61, v61), (62, (ptr l62 (o62 + 0))), (63, v63), (64, (t 6)), (65, v65), (66, v65), (67, (t 8)), (68, v68), (8, v68)]) g n))

def bellowslaw17_TraceOf_l4 (C : CT) (K : Cont) (I_l1 : ECont) (I_l3 : ECont) (I_l4 : ECont) (t : Env) (g : G) (n : Nat) : Prop :=
kLen (t 0) fun v39 =>
kBin .int .lss (t 8) v39 fun v40 =>
kSplit v40 (
kIndexAddr (t 0) (t 8) 5 fun v44 =>
kPtr v44 fun l45 o45 =>
kLdN g l45 o45 5 fun c45 =>
kIndexAddr (t 7) (t 9) 5 fun v48 =>
kPtr v48 fun l49 o49 =>
kLdN g l49 o49 5 fun c49 =>
kBin (.agg [.i, .i, .i, .i, .i]) .neq (.agg c45.toArray) (.agg c49.toArray) fun v50 =>
kSplit v50 (
kBin .int .add (t 8) (.int .i64 1) fun v53 =>
I_l4 (puts t [(37, (t 8)), (38, (t 0)), (39, v39), (40, v40), (41, (.bool true)), (42, (t 0)), (43, (t 8)), (44, v44), (45, (.agg c45.toArray)), (46, (t 7)), (47, (t 9)), (48, v48), (49, (.agg c49.toArray)), (50, v50), (51, v50), (52, (t 8)), (53, v53), (8, v53)]) g n) (
bellowslaw17_TraceOf_j5 C K I_l1 I_l3 (puts t [(37, (t 8)), (38, (t 0)), (39, v39), (40, v40), (41, (.bool true)), (42, (t 0)), (43, (t 8)), (44, v44), (45, (.agg c45.toArray)), (46, (t 7)), (47, (t 9)), (48, v48), (49, (.agg c49.toArray)), (50, v50), (51, v50)]) g n)) (
bellowslaw17_TraceOf_j5 C K I_l1 I_l3 (puts t [(37, (t 8)), (38, (t 0)), (39, v39), (40, v40), (41, (.bool false)), (42, undef), (43, undef), (44, undef), (45, undef), (46, undef), (47, undef), (48, undef), (49, undef), (50, undef), (51, (.bool false))]) g n)

def bellowslaw17_TraceOf_l3 (C : CT) (K : Cont) (I_l1 : ECont) (I_l3 : ECont) (t : Env) (g : G) (n : Nat) : Prop :=
kLen (t 7) fun v33 =>
kBin .int .lss (t 9) v33 fun v34 =>
kSplit v34 (
lfp (bellowslaw17_TraceOf_l4 C K I_l1 I_l3) (puts t [(31, (t 9)), (32, (t 7)), (33, v33), (34, v34)]) g n) (
bellowslaw17_TraceOf_j2 C K I_l1 (puts t [(31, (t 9)), (32, (t 7)), (33, v33), (34, v34)]) g n)

def bellowslaw17_TraceOf_j9 (C : CT) (K : Cont) (I_l8 : ECont) (t : Env) (g : G) (n : Nat) : Prop :=
kBin .int .add (t 11) (.int .i64 1) fun v74 =>
I_l8 (puts t [(73, (t 11)), (74, v74), (11, v74)]) g n

def bellowslaw17_TraceOf_j10 (C : CT) (K : Cont) (t : Env) (g : G) (n : Nat) : Prop :=
kBin .int .add (t 5) (t 10) fun v101 =>
kLen (t 0) fun v103 =>
kBin .int .eql v101 v103 fun v104 =>
kSplit v104 (
C trace_Of_id [(t 0), (.int .i64 0), (.int .i64 (-1))] g n fun v107 g5 n107 =>
C trace_Same_id [v107, (t 0)] g5 n107 fun v109 g6 n109 =>
kSplit v109 (
C trace_Of_id [(t 0), (.int .i64 8), (t 1)] g6 n109 fun v114 g7 n114 =>
kLen v114 fun v115 =>
C trace_Tells_id [(t 0), (t 1)] g7 n114 fun v118 g8 n118 =>
kLen v118 fun v119 =>
C bellowslaw17_told_id [(t 0), (t 1)] g8 n118 fun v122 g9 n122 =>
kBin .int .add v119 v122 fun v123 =>
kBin .int .eql v115 v123 fun v124 =>
kSplit v124 (
C bellowslaw17_wakes_id [] g9 n122 fun v127 g10 n127 =>
aRet K v127 g10 n127) (
aRet K (.bool false) g9 n122)) (
aRet K (.bool false) g6 n109)) (
aRet K (.bool false) g n)

def bellowslaw17_TraceOf_l8 (C : CT) (K : Cont) (I_l8 : ECont) (t : Env) (g : G) (n : Nat) : Prop :=
kLen (t 0) fun v71 =>
kBin .int .lss (t 11) v71 fun v72 =>
kSplit v72 (
kIndexAddr (t 0) (t 11) 5 fun v77 =>
kPtr v77 fun l78 o78 =>
kLd g l78 (o78 + 0) fun v79 =>
kBin .int .lss v79 (.int .i64 (-1)) fun v80 =>
kSplit v80 (
kBin .int .add (t 10) (.int .i64 1) fun v98 =>
bellowslaw17_TraceOf_j9 C K I_l8 (puts t [(69, (t 11)), (70, (t 0)), (71, v71), (72, v72), (75, (t 0)), (76, (t 11)), (77, v77), (78, (ptr l78 (o78 + 0))), (79, v79), (80, v80), (81, (.bool true)), (82, undef), (83, undef), (84, undef), (85, undef), (86, undef), (87, undef), (88, (.bool true)), (89, (.bool true)), (90, undef), (91, undef), (92, undef), (93, undef), (94, undef), (95, undef), (96, (.bool true)), (97, (t 10)), (98, v98), (10, v98)]) g n) (
kIndexAddr (t 0) (t 11) 5 fun v84 =>
kPtr v84 fun l85 o85 =>
kLd g l85 (o85 + 0) fun v86 =>
kBin .int .eql v86 (.int .i64 0) fun v87 =>
kSplit v87 (
kBin .int .add (t 10) (.int .i64 1) fun v98 =>
bellowslaw17_TraceOf_j9 C K I_l8 (puts t [(69, (t 11)), (70, (t 0)), (71, v71), (72, v72), (75, (t 0)), (76, (t 11)), (77, v77), (78, (ptr l78 (o78 + 0))), (79, v79), (80, v80), (81, (.bool false)), (82, (t 0)), (83, (t 11)), (84, v84), (85, (ptr l85 (o85 + 0))), (86, v86), (87, v87), (88, v87), (89, (.bool true)), (90, undef), (91, undef), (92, undef), (93, undef), (94, undef), (95, undef), (96, (.bool true)), (97, (t 10)), (98, v98), (10, v98)]) g n) (
kIndexAddr (t 0) (t 11) 5 fun v92 =>
kPtr v92 fun l93 o93 =>
kLd g l93 (o93 + 0) fun v94 =>
kBin .int .gtr v94 (.int .i64 20) fun v95 =>
kSplit v95 (
kBin .int .add (t 10) (.int .i64 1) fun v98 =>
bellowslaw17_TraceOf_j9 C K I_l8 (puts t [(69, (t 11)), (70, (t 0)), (71, v71), (72, v72), (75, (t 0)), (76, (t 11)), (77, v77), (78, (ptr l78 (o78 + 0))), (79, v79), (80, v80), (81, (.bool false)), (82, (t 0)), (83, (t 11)), (84, v84), (85, (ptr l85 (o85 + 0))), (86, v86), (87, v87), (88, v87), (89, (.bool false)), (90, (t 0)), (91, (t 11)), (92, v92), (93, (ptr l93 (o93 + 0))), (94, v94), (95, v95), (96, v95), (97, (t 10)), (98, v98), (10, v98)]) g n) (
bellowslaw17_TraceOf_j9 C K I_l8 (puts t [(69, (t 11)), (70, (t 0)), (71, v71), (72, v72), (75, (t 0)), (76, (t 11)), (77, v77), (78, (ptr l78 (o78 + 0))), (79, v79), (80, v80), (81, (.bool false)), (82, (t 0)), (83, (t 11)), (84, v84), (85, (ptr l85 (o85 + 0))), (86, v86), (87, v87), (88, v87), (89, (.bool false)), (90, (t 0)), (91, (t 11)), (92, v92), (93, (ptr l93 (o93 + 0))), (94, v94), (95, v95), (96, v95)]) g n)))) (
bellowslaw17_TraceOf_j10 C K (puts t [(69, (t 11)), (70, (t 0)), (71, v71), (72, v72)]) g n)

def bellowslaw17_TraceOf_j7 (C : CT) (K : Cont) (t : Env) (g : G) (n : Nat) : Prop :=
lfp (bellowslaw17_TraceOf_l8 C K) (puts t [(10, (.int .i64 0)), (11, (.int .i64 0))]) g n

def bellowslaw17_TraceOf_l1 (C : CT) (K : Cont) (I_l1 : ECont) (t : Env) (g : G) (n : Nat) : Prop :=
kBin .int .leq (t 6) (.int .i64 20) fun v17 =>
kSplit v17 (
kBin .int .eql (t 6) (.int .i64 0) fun v21 =>
kSplit v21 (
bellowslaw17_TraceOf_j2 C K I_l1 (puts t [(16, (t 6)), (17, v17), (20, (t 6)), (21, v21)]) g n) (
kFill (reps 0 [(.int .i64 0), (.int .i64 0), (.int .i64 0), (.int .i64 0), (.int .u64 0)]) [] fun c22 =>
kNew c22 .exact g n fun l22 g2 n22 =>
kAppend (.slice (some ⟨l22, 0, none⟩) 0 0) (t 0) 5 40 g2 n22 fun v24 g3 n24 =>
C trace_Of_id [v24, (t 6), (.int .i64 (-1))] g3 n24 fun v26 g4 n26 =>
kLen v26 fun v29 =>
kBin .int .add (t 5) v29 fun v30 =>
lfp (bellowslaw17_TraceOf_l3 C K I_l1) (puts t [(16, (t 6)), (17, v17), (20, (t 6)), (21, v21), (22, (.slice (some ⟨l22, 0, none⟩) 0 0)), (23, (t 0)), (24, v24), (25, (t 6)), (26, v26), (7, v26), (27, (t 5)), (28, v26), (29, v29), (30, v30), (5, v30), (8, (.int .i64 0)), (9, (.int .i64 0))]) g4 n26)) (
bellowslaw17_TraceOf_j7 C K (puts t [(16, (t 6)), (17, v17)]) g n)

def bellowslaw17_TraceOf (C : CT) (a0 a1 : Value) (g : G) (n : Nat) (K : Cont) : Prop :=
kLen a0 fun v13 =>
kBin .int .gtr v13 (.int .i64 300) fun v14 =>
kSplit v14 (
C bellowslaw17_wakes_id [] g n fun v15 g1 n15 =>
aRet K v15 g1 n15) (
lfp (bellowslaw17_TraceOf_l1 C K) (puts (args0 [a0, a1]) [(4, (.bool false)), (12, a0), (13, v13), (14, v14), (5, (.int .i64 0)), (6, (.int .i64 (-1)))]) g n)

theorem bellowslaw17_TraceOf_eq (C : CT) (a0 a1 : Value) (g : G) (n : Nat) (K : Cont) : bellowslaw17_TraceOf C a0 a1 g n K = abody Try.prog C bellowslaw17_TraceOf_id [a0, a1] g n K := by kernel_rfl

/- bellows/bellowslaw19.PersistMoments -/
def bellowslaw19_PersistMoments_j9 (C : CT) (K : Cont) (t : Env) (g : G) (n : Nat) : Prop :=
kFill [(.int .u64 0), (.int .u64 0), (.int .u64 0), (.int .u64 0), (.int .u64 0), (.int .u64 0), (.int .u64 0), (.int .u64 0)] [] fun c165 =>
kFill [(.int .u64 0), (.int .u64 0), (.int .u64 0), (.int .u64 0), (.int .u64 0), (.int .u64 0), (.int .u64 0), (.int .u64 0)] [] fun c166 =>
C persist_May_id [(.agg c165.toArray), (.agg c166.toArray), (t 9), (t 7)] g n fun v169 g22 n169 =>
kLen (t 0) fun v171 =>
kBin .int .eql v171 (.int .i64 0) fun v172 =>
kBin .bool .eql v169 v172 fun v173 =>
kSplit v173 (
C bellowslaw19_wakes_id [] g22 n169 fun v175 g23 n175 =>
aRet K v175 g23 n175) (
aRet K (.bool false) g22 n169)

def bellowslaw19_PersistMoments_l8 (C : CT) (K : Cont) (I_l8 : ECont) (t : Env) (g : G) (n : Nat) : Prop :=
kLen (t 0) fun v144 =>
kBin .int .lss (t 15) v144 fun v145 =>
kSplit v145 (
kNew [(.int .u64 0), (.int .u64 0), (.int .u64 0), (.int .u64 0), (.int .u64 0), (.int .u64 0), (.int .u64 0), (.int .u64 0)] .exact g n fun l16 g19 n16 =>
kIndexAddr (t 0) (t 15) 1 fun v151 =>
kPtr v151 fun l152 o152 =>
kLd g19 l152 o152 fun v152 =>
kConv .u64 v152 fun v153 =>
kBin .int .add v153 (.int .u64 1) fun v154 =>
kIndexArr (ptr l16 0) (t 8) 8 1 fun v155 =>
kPtr v155 fun lg20 og20 =>
kSt g19 lg20 og20 v154 fun g20 =>
kFill [(.int .u64 0), (.int .u64 0), (.int .u64 0), (.int .u64 0), (.int .u64 0), (.int .u64 0), (.int .u64 0), (.int .u64 0)] [] fun c156 =>
kLdN g20 l16 0 8 fun c157 =>
kLdN g20 l16 0 8 fun c161 =>
kPtr (t 12) fun l162 o162 =>
kLdN g20 l162 o162 8 fun c162 =>
kBin (.agg [.i, .i, .i, .i, .i, .i, .i, .i]) .eql (.agg c161.toArray) (.agg c162.toArray) fun v163 =>
C persist_May_id [(.agg c156.toArray), (.agg c157.toArray), (t 9), (t 7)] g20 n16 fun v160 g21 n160 =>
(kPtr (ptr l16 0) fun l _ => g21 l = g20 l) ∧ (kPtr (t 12) fun l _ => g21 l = g20 l) ∧ kBin .bool .neq v160 v163 fun v164 =>
kSplit v164 (
aRet K (.bool false) g21 n160) (
kBin .int .add (t 15) (.int .i64 1) fun v147 =>
I_l8 (puts t [(142, (t 15)), (143, (t 0)), (144, v144), (145, v145), (16, (ptr l16 0)), (148, (t 8)), (149, (t 0)), (150, (t 15)), (151, v151), (152, v152), (153, v153), (154, v154), (155, v155), (156, (.agg c156.toArray)), (157, (.agg c157.toArray)), (158, (t 9)), (159, (t 7)), (161, (.agg c161.toArray)), (162, (.agg c162.toArray)), (163, v163), (160, v160), (164, v164), (146, (t 15)), (147, v147), (15, v147)]) g21 n160)) (
bellowslaw19_PersistMoments_j9 C K (puts t [(142, (t 15)), (143, (t 0)), (144, v144), (145, v145)]) g n)

def bellowslaw19_PersistMoments_j7 (C : CT) (K : Cont) (t : Env) (g : G) (n : Nat) : Prop :=
lfp (bellowslaw19_PersistMoments_l8 C K) (puts t [(15, (.int .i64 0))]) g n

def bellowslaw19_PersistMoments_l6 (C : CT) (K : Cont) (I_l6 : ECont) (t : Env) (g : G) (n : Nat) : Prop :=
kLen (t 1) fun v124 =>
kBin .int .lss (t 13) v124 fun v125 =>
kSplit v125 (
kNew [(.int .u64 0), (.int .u64 0), (.int .u64 0), (.int .u64 0), (.int .u64 0), (.int .u64 0), (.int .u64 0), (.int .u64 0)] .exact g n fun l14 g16 n14 =>
kIndexAddr (t 1) (t 13) 1 fun v131 =>
kPtr v131 fun l132 o132 =>
kLd g16 l132 o132 fun v132 =>
kConv .u64 v132 fun v133 =>
kBin .int .add v133 (.int .u64 1000) fun v134 =>
kIndexArr (ptr l14 0) (t 8) 8 1 fun v135 =>
kPtr v135 fun lg17 og17 =>
kSt g16 lg17 og17 v134 fun g17 =>
kFill [(.int .u64 0), (.int .u64 0), (.int .u64 0), (.int .u64 0), (.int .u64 0), (.int .u64 0), (.int .u64 0), (.int .u64 0)] [] fun c136 =>
kLdN g17 l14 0 8 fun c137 =>
C persist_May_id [(.agg c136.toArray), (.agg c137.toArray), (t 9), (t 7)] g17 n14 fun v140 g18 n140 =>
kUn .not v140 fun v141 =>
kSplit v141 (
aRet K (.bool false) g18 n140) (
kBin .int .add (t 13) (.int .i64 1) fun v127 =>
I_l6 (puts t [(122, (t 13)), (123, (t 1)), (124, v124), (125, v125), (14, (ptr l14 0)), (128, (t 8)), (129, (t 1)), (130, (t 13)), (131, v131), (132, v132), (133, v133), (134, v134), (135, v135), (136, (.agg c136.toArray)), (137, (.agg c137.toArray)), (138, (t 9)), (139, (t 7)), (140, v140), (141, v141), (126, (t 13)), (127, v127), (13, v127)]) g18 n140)) (
bellowslaw19_PersistMoments_j7 C K (puts t [(122, (t 13)), (123, (t 1)), (124, v124), (125, v125)]) g n)

def bellowslaw19_PersistMoments_j5 (C : CT) (K : Cont) (t : Env) (g : G) (n : Nat) : Prop :=
kFill [(.int .u64 0), (.int .u64 0), (.int .u64 0), (.int .u64 0), (.int .u64 0), (.int .u64 0), (.int .u64 0), (.int .u64 0)] [] fun c116 =>
kPtr (t 12) fun l117 o117 =>
kLdN g l117 o117 8 fun c117 =>
C persist_May_id [(.agg c116.toArray), (.agg c117.toArray), (t 9), (t 7)] g n fun v120 g15 n120 =>
kUn .not v120 fun v121 =>
kSplit v121 (
aRet K (.bool false) g15 n120) (
lfp (bellowslaw19_PersistMoments_l6 C K) (puts t [(116, (.agg c116.toArray)), (117, (.agg c117.toArray)), (118, (t 9)), (119, (t 7)), (120, v120), (121, v121), (13, (.int .i64 0))]) g15 n120)

def bellowslaw19_PersistMoments_j4 (C : CT) (K : Cont) (t : Env) (g : G) (n : Nat) : Prop :=
C persist_Sure_id [(t 9), (t 7)] g n fun v84 g10 n84 =>
kLen (t 0) fun v86 =>
kBin .int .neq v84 v86 fun v87 =>
kSplit v87 (
aRet K (.bool false) g10 n84) (
kFill [(.int .u64 0), (.int .u64 0), (.int .u64 0), (.int .u64 0), (.int .u64 0), (.int .u64 0), (.int .u64 0), (.int .u64 0)] [] fun c89 =>
C persist_History_id [(.agg c89.toArray), (t 9), (t 7)] g10 n84 fun v92 g11 n92 =>
kLen v92 fun v93 =>
kLen (t 0) fun v95 =>
kLen (t 1) fun v97 =>
kBin .int .add v95 v97 fun v98 =>
kBin .int .add v98 (.int .i64 1) fun v99 =>
kBin .int .neq v93 v99 fun v100 =>
kSplit v100 (
aRet K (.bool false) g11 n92) (
kFill [(.int .u64 0), (.int .u64 0), (.int .u64 0), (.int .u64 0), (.int .u64 0), (.int .u64 0), (.int .u64 0), (.int .u64 0)] [] fun c102 =>
kNew [(.int .u64 0), (.int .u64 0), (.int .u64 0), (.int .u64 0), (.int .u64 0), (.int .u64 0), (.int .u64 0), (.int .u64 0)] .exact g11 n92 fun l12 g12 n12 =>
kAgg (.agg c102.toArray) fun cg13 =>
cg13.length = 8 ∧ kStN g12 l12 0 cg13 fun g13 =>
kLen (t 0) fun v104 =>
kBin .int .gtr v104 (.int .i64 0) fun v105 =>
kSplit v105 (
kLen (t 0) fun v109 =>
kBin .int .sub v109 (.int .i64 1) fun v110 =>
kIndexAddr (t 0) v110 1 fun v111 =>
kPtr v111 fun l112 o112 =>
kLd g13 l112 o112 fun v112 =>
kConv .u64 v112 fun v113 =>
kBin .int .add v113 (.int .u64 1) fun v114 =>
kIndexArr (ptr l12 0) (t 8) 8 1 fun v115 =>
kPtr v115 fun lg14 og14 =>
kSt g13 lg14 og14 v114 fun g14 =>
bellowslaw19_PersistMoments_j5 C K (puts t [(82, (t 9)), (83, (t 7)), (84, v84), (85, (t 0)), (86, v86), (87, v87), (88, (.bool false)), (89, (.agg c89.toArray)), (90, (t 9)), (91, (t 7)), (92, v92), (93, v93), (94, (t 0)), (95, v95), (96, (t 1)), (97, v97), (98, v98), (99, v99), (100, v100), (101, v100), (102, (.agg c102.toArray)), (12, (ptr l12 0)), (103, (t 0)), (104, v104), (105, v105), (106, (t 8)), (107, (t 0)), (108, (t 0)), (109, v109), (110, v110), (111, v111), (112, v112), (113, v113), (114, v114), (115, v115)]) g14 n12) (
bellowslaw19_PersistMoments_j5 C K (puts t [(82, (t 9)), (83, (t 7)), (84, v84), (85, (t 0)), (86, v86), (87, v87), (88, (.bool false)), (89, (.agg c89.toArray)), (90, (t 9)), (91, (t 7)), (92, v92), (93, v93), (94, (t 0)), (95, v95), (96, (t 1)), (97, v97), (98, v98), (99, v99), (100, v100), (101, v100), (102, (.agg c102.toArray)), (12, (ptr l12 0)), (103, (t 0)), (104, v104), (105, v105)]) g13 n12)))

def bellowslaw19_PersistMoments_l3 (C : CT) (K : Cont) (I_l3 : ECont) (t : Env) (g : G) (n : Nat) : Prop :=
kLen (t 1) fun v66 =>
kBin .int .lss (t 11) v66 fun v67 =>
kSplit v67 (
kIndexAddr (t 1) (t 11) 1 fun v75 =>
kPtr v75 fun l76 o76 =>
kLd g l76 o76 fun v76 =>
kConv .u64 v76 fun v77 =>
kBin .int .add v77 (.int .u64 1000) fun v78 =>
kFill [(.int .i64 0), (.int .i64 0), (.int .i64 0), (.int .i64 0), (.int .u64 0)] [(0, none, (.int .i64 3)), (2, none, (t 7)), (3, none, (t 8)), (4, none, v78)] fun c79 =>
kFill (reps 1 [(.int .i64 0), (.int .i64 0), (.int .i64 0), (.int .i64 0), (.int .u64 0)]) [(0, (some 5), (.agg c79.toArray))] fun c80 =>
kNew c80 .exact g n fun l80 g8 n80 =>
kAppend (t 9) (.slice (some ⟨l80, 0, none⟩) 1 1) 5 40 g8 n80 fun v81 g9 n81 =>
kBin .int .add (t 11) (.int .i64 1) fun v69 =>
I_l3 (puts t [(64, (t 11)), (65, (t 1)), (66, v66), (67, v67), (70, (t 9)), (71, (t 7)), (72, (t 8)), (73, (t 1)), (74, (t 11)), (75, v75), (76, v76), (77, v77), (78, v78), (79, (.agg c79.toArray)), (80, (.slice (some ⟨l80, 0, none⟩) 1 1)), (81, v81), (9, v81), (68, (t 11)), (69, v69), (11, v69)]) g9 n81) (
bellowslaw19_PersistMoments_j4 C K (puts t [(64, (t 11)), (65, (t 1)), (66, v66), (67, v67)]) g n)

def bellowslaw19_PersistMoments_j2 (C : CT) (K : Cont) (t : Env) (g : G) (n : Nat) : Prop :=
kFill [(.int .i64 0), (.int .i64 0), (.int .i64 0), (.int .i64 0), (.int .u64 0)] [(0, none, (.int .i64 5)), (2, none, (t 7))] fun c61 =>
kFill (reps 1 [(.int .i64 0), (.int .i64 0), (.int .i64 0), (.int .i64 0), (.int .u64 0)]) [(0, (some 5), (.agg c61.toArray))] fun c62 =>
kNew c62 .exact g n fun l62 g6 n62 =>
kAppend (t 9) (.slice (some ⟨l62, 0, none⟩) 1 1) 5 40 g6 n62 fun v63 g7 n63 =>
lfp (bellowslaw19_PersistMoments_l3 C K) (puts t [(59, (t 9)), (60, (t 7)), (61, (.agg c61.toArray)), (62, (.slice (some ⟨l62, 0, none⟩) 1 1)), (63, v63), (9, v63), (11, (.int .i64 0))]) g7 n63

def bellowslaw19_PersistMoments_l1 (C : CT) (K : Cont) (I_l1 : ECont) (t : Env) (g : G) (n : Nat) : Prop :=
kLen (t 0) fun v36 =>
kBin .int .lss (t 10) v36 fun v37 =>
kSplit v37 (
kIndexAddr (t 0) (t 10) 1 fun v45 =>
kPtr v45 fun l46 o46 =>
kLd g l46 o46 fun v46 =>
kConv .u64 v46 fun v47 =>
kBin .int .add v47 (.int .u64 1) fun v48 =>
kFill [(.int .i64 0), (.int .i64 0), (.int .i64 0), (.int .i64 0), (.int .u64 0)] [(0, none, (.int .i64 3)), (2, none, (t 7)), (3, none, (t 8)), (4, none, v48)] fun c49 =>
kBin .int .add (t 7) (.int .i64 1) fun v51 =>
kFill [(.int .i64 0), (.int .i64 0), (.int .i64 0), (.int .i64 0), (.int .u64 0)] [(0, none, (.int .i64 3)), (2, none, v51), (3, none, (t 8)), (4, none, (.int .u64 7))] fun c53 =>
kBin .int .add (t 7) (.int .i64 1) fun v55 =>
kFill [(.int .i64 0), (.int .i64 0), (.int .i64 0), (.int .i64 0), (.int .u64 0)] [(0, none, (.int .i64 5)), (2, none, v55)] fun c56 =>
kFill (reps 3 [(.int .i64 0), (.int .i64 0), (.int .i64 0), (.int .i64 0), (.int .u64 0)]) [(0, (some 5), (.agg c49.toArray)), (5, (some 5), (.agg c53.toArray)), (10, (some 5), (.agg c56.toArray))] fun c57 =>
kNew c57 .exact g n fun l57 g4 n57 =>
kAppend (t 9) (.slice (some ⟨l57, 0, none⟩) 3 3) 5 40 g4 n57 fun v58 g5 n58 =>
kBin .int .add (t 10) (.int .i64 1) fun v39 =>
I_l1 (puts t [(34, (t 10)), (35, (t 0)), (36, v36), (37, v37), (40, (t 9)), (41, (t 7)), (42, (t 8)), (43, (t 0)), (44, (t 10)), (45, v45), (46, v46), (47, v47), (48, v48), (49, (.agg c49.toArray)), (50, (t 7)), (51, v51), (52, (t 8)), (53, (.agg c53.toArray)), (54, (t 7)), (55, v55), (56, (.agg c56.toArray)), (57, (.slice (some ⟨l57, 0, none⟩) 3 3)), (58, v58), (9, v58), (38, (t 10)), (39, v39), (10, v39)]) g5 n58) (
bellowslaw19_PersistMoments_j2 C K (puts t [(34, (t 10)), (35, (t 0)), (36, v36), (37, v37)]) g n)

def bellowslaw19_PersistMoments (C : CT) (a0 a1 a2 : Value) (g : G) (n : Nat) (K : Cont) : Prop :=
kAgg a2 fun c5 =>
kNew c5 .exact g n fun l5 g1 n5 =>
kLen a0 fun v18 =>
kBin .int .gtr v18 (.int .i64 40) fun v19 =>
kSplit v19 (
C bellowslaw19_wakes_id [] g1 n5 fun v25 g2 n25 =>
aRet K v25 g2 n25) (
kLen a1 fun v22 =>
kBin .int .gtr v22 (.int .i64 40) fun v23 =>
kSplit v23 (
C bellowslaw19_wakes_id [] g1 n5 fun v25 g3 n25 =>
aRet K v25 g3 n25) (
kIndexArr (ptr l5 0) (.int .i64 0) 2 1 fun v26 =>
kPtr v26 fun l27 o27 =>
kLd g1 l27 o27 fun v27 =>
kConv .i64 v27 fun v28 =>
kBin .int .rem v28 (.int .i64 8) fun v29 =>
kIndexArr (ptr l5 0) (.int .i64 1) 2 1 fun v30 =>
kPtr v30 fun l31 o31 =>
kLd g1 l31 o31 fun v31 =>
kConv .i64 v31 fun v32 =>
kBin .int .rem v32 (.int .i64 8) fun v33 =>
lfp (bellowslaw19_PersistMoments_l1 C K) (puts (args0 [a0, a1, a2]) [(5, (ptr l5 0)), (6, (.bool false)), (17, a0), (18, v18), (19, v19), (20, (.bool false)), (21, a1), (22, v22), (23, v23), (24, v23), (26, v26), (27, v27), (28, v28), (29, v29), (30, v30), (31, v31), (32, v32), (33, v33), (7, v29), (8, v33), (9, (.slice none 0 0)), (10, (.int .i64 0))]) g1 n5))

theorem bellowslaw19_PersistMoments_eq (C : CT) (a0 a1 a2 : Value) (g : G) (n : Nat) (K : Cont) : bellowslaw19_PersistMoments C a0 a1 a2 g n K = abody Try.prog C bellowslaw19_PersistMoments_id [a0, a1, a2] g n K := by kernel_rfl

/- bellows/bellowslaw05.ArrayKeeps -/
def bellowslaw05_ArrayKeeps_j2 (C : CT) (K : Cont) (I_l1 : ECont) (t : Env) (g : G) (n : Nat) : Prop :=
kBin .int .add (t 7) (.int .i64 1) fun v46 =>
I_l1 (puts t [(45, (t 7)), (46, v46), (7, v46)]) g n

def bellowslaw05_ArrayKeeps_j3 (C : CT) (K : Cont) (t : Env) (g : G) (n : Nat) : Prop :=
C array_Array_Find_id [(t 5), (.int .i64 5)] g n fun v84 g10 n84 =>
kExtract v84 0 fun v85 =>
kExtract v84 1 fun v86 =>
kNew [(.int .i64 0), (.int .i64 0), (.int .u64 0), (.int .u64 0), (.int .u64 0), (.int .u64 0), (.int .u64 0), (.int .u64 0), (.int .u64 0), (.int .u64 0), (.int .i64 0)] .exact g10 n84 fun l11 g11 n11 =>
kAgg v85 fun cg12 =>
cg12.length = 11 ∧ kStN g11 l11 0 cg12 fun g12 =>
kSplit v86 (
kLd g12 l11 (0 + 0) fun v90 =>
kBin .int .eql v90 (.int .i64 3) fun v91 =>
kSplit v91 (
kLdN g12 l11 (0 + 2) 8 fun c95 =>
kPtr (t 2) fun l96 o96 =>
kLdN g12 l96 o96 8 fun c96 =>
kBin (.agg [.i, .i, .i, .i, .i, .i, .i, .i]) .eql (.agg c95.toArray) (.agg c96.toArray) fun v97 =>
kSplit v97 (
kLd g12 l11 (0 + 1) fun v101 =>
kBin .int .eql v101 (.int .i64 5) fun v102 =>
kSplit v102 (
C bellowslaw05_wakes_id [] g12 n11 fun v105 g13 n105 =>
aRet K v105 g13 n105) (
aRet K (.bool false) g12 n11)) (
aRet K (.bool false) g12 n11)) (
aRet K (.bool false) g12 n11)) (
aRet K (.bool false) g12 n11)

def bellowslaw05_ArrayKeeps_l1 (C : CT) (K : Cont) (I_l1 : ECont) (t : Env) (g : G) (n : Nat) : Prop :=
kLen (t 1) fun v43 =>
kBin .int .lss (t 7) v43 fun v44 =>
kSplit v44 (
kIndexAddr (t 1) (t 7) 1 fun v49 =>
kPtr v49 fun l50 o50 =>
kLd g l50 o50 fun v50 =>
kConv .i64 v50 fun v51 =>
kBin .int .rem v51 (.int .i64 40) fun v52 =>
kBin .int .rem v52 (.int .i64 4) fun v54 =>
kBin .int .eql v54 (.int .i64 1) fun v55 =>
kSplit v55 (
bellowslaw05_ArrayKeeps_j2 C K I_l1 (puts t [(41, (t 7)), (42, (t 1)), (43, v43), (44, v44), (47, (t 1)), (48, (t 7)), (49, v49), (50, v50), (51, v51), (52, v52), (8, v52), (53, v52), (54, v54), (55, v55)]) g n) (
kFill [(.int .u64 0), (.int .u64 0), (.int .u64 0), (.int .u64 0), (.int .u64 0), (.int .u64 0), (.int .u64 0), (.int .u64 0)] [] fun c58 =>
C array_Array_Set_id [(t 5), v52, (.int .i64 1), (.agg c58.toArray)] g n fun v59 g7 n59 =>
kBin .int .eql v59 (.int .i64 13) fun v60 =>
kSplit v60 (
C array_Array_Room_id [(t 5), v52] g7 n59 fun v64 g8 n64 =>
kExtract v64 0 fun v65 =>
kExtract v64 1 fun v66 =>
kBin .int .lss v66 (.int .i64 0) fun v68 =>
kSplit v68 (
aRet K (.bool false) g8 n64) (
kBin .int .rem v66 (.int .i64 4) fun v71 =>
kBin .int .rem v52 (.int .i64 4) fun v73 =>
kBin .int .neq v71 v73 fun v74 =>
kSplit v74 (
aRet K (.bool false) g8 n64) (
C array_Array_Drop_id [(t 5), v66] g8 n64 fun v79 g9 n79 =>
kUn .not v79 fun v80 =>
kSplit v80 (
aRet K (.bool false) g9 n79) (
bellowslaw05_ArrayKeeps_j2 C K I_l1 (puts t [(41, (t 7)), (42, (t 1)), (43, v43), (44, v44), (47, (t 1)), (48, (t 7)), (49, v49), (50, v50), (51, v51), (52, v52), (8, v52), (53, v52), (54, v54), (55, v55), (56, (t 5)), (57, v52), (58, (.agg c58.toArray)), (59, v59), (60, v60), (62, (t 5)), (63, v52), (64, v64), (61, v64), (65, v65), (66, v66), (9, v65), (10, v66), (67, v66), (68, v68), (69, (.bool false)), (70, v66), (71, v71), (72, v52), (73, v73), (74, v74), (75, v74), (76, (.bool false)), (77, (t 5)), (78, v66), (79, v79), (80, v80), (81, v80)]) g9 n79)))) (
bellowslaw05_ArrayKeeps_j2 C K I_l1 (puts t [(41, (t 7)), (42, (t 1)), (43, v43), (44, v44), (47, (t 1)), (48, (t 7)), (49, v49), (50, v50), (51, v51), (52, v52), (8, v52), (53, v52), (54, v54), (55, v55), (56, (t 5)), (57, v52), (58, (.agg c58.toArray)), (59, v59), (60, v60)]) g7 n59))) (
bellowslaw05_ArrayKeeps_j3 C K (puts t [(41, (t 7)), (42, (t 1)), (43, v43), (44, v44)]) g n)

def bellowslaw05_ArrayKeeps (C : CT) (a0 a1 : Value) (g : G) (n : Nat) (K : Cont) : Prop :=
kAgg a0 fun c2 =>
kNew c2 .exact g n fun l2 g1 n2 =>
C array_New_id [(.int .i64 4), (.int .i64 2)] g1 n2 fun v14 g2 n14 =>
kExtract v14 0 fun v15 =>
kExtract v14 1 fun v16 =>
kBin .int .neq v16 (.int .i64 0) fun v18 =>
kSplit v18 (
kBin .int .eql v16 (.int .i64 0) fun v29 =>
kSplit v29 (
kBin .ptr .neq v15 (.pointer none) fun v32 =>
kSplit v32 (
C bellowslaw05_wakes_id [] g2 n14 fun v35 g3 n35 =>
aRet K v35 g3 n35) (
aRet K (.bool false) g2 n14)) (
aRet K (.bool false) g2 n14)) (
kBin .ptr .eql v15 (.pointer none) fun v21 =>
kSplit v21 (
kBin .int .eql v16 (.int .i64 0) fun v29 =>
kSplit v29 (
kBin .ptr .neq v15 (.pointer none) fun v32 =>
kSplit v32 (
C bellowslaw05_wakes_id [] g2 n14 fun v35 g4 n35 =>
aRet K v35 g4 n35) (
aRet K (.bool false) g2 n14)) (
aRet K (.bool false) g2 n14)) (
kLen a1 fun v25 =>
kBin .int .gtr v25 (.int .i64 100) fun v26 =>
kSplit v26 (
kBin .int .eql v16 (.int .i64 0) fun v29 =>
kSplit v29 (
kBin .ptr .neq v15 (.pointer none) fun v32 =>
kSplit v32 (
C bellowslaw05_wakes_id [] g2 n14 fun v35 g5 n35 =>
aRet K v35 g5 n35) (
aRet K (.bool false) g2 n14)) (
aRet K (.bool false) g2 n14)) (
kLdN g2 l2 0 8 fun c38 =>
C array_Array_Set_id [v15, (.int .i64 5), (.int .i64 3), (.agg c38.toArray)] g2 n14 fun v39 g6 n39 =>
kBin .int .neq v39 (.int .i64 0) fun v40 =>
kSplit v40 (
aRet K (.bool false) g6 n39) (
lfp (bellowslaw05_ArrayKeeps_l1 C K) (puts (args0 [a0, a1]) [(2, (ptr l2 0)), (4, (.bool false)), (14, v14), (13, v14), (15, v15), (16, v16), (5, v15), (6, v16), (17, v16), (18, v18), (19, (.bool false)), (20, v15), (21, v21), (22, v21), (23, (.bool false)), (24, a1), (25, v25), (26, v26), (27, v26), (37, v15), (38, (.agg c38.toArray)), (39, v39), (40, v40), (7, (.int .i64 0))]) g6 n39))))

theorem bellowslaw05_ArrayKeeps_eq (C : CT) (a0 a1 : Value) (g : G) (n : Nat) (K : Cont) : bellowslaw05_ArrayKeeps C a0 a1 g n K = abody Try.prog C bellowslaw05_ArrayKeeps_id [a0, a1] g n K := by kernel_rfl

/- bellows/bellowslaw05.ArrayPlays -/
def bellowslaw05_ArrayPlays_j3 (C : CT) (K : Cont) (I_l1 : ECont) (t : Env) (g : G) (n : Nat) : Prop :=
kBin .int .add (t 11) (.int .i64 1) fun v54 =>
I_l1 (puts t [(53, (t 11)), (54, v54), (11, v54)]) g n

def bellowslaw05_ArrayPlays_j2 (C : CT) (K : Cont) (I_l1 : ECont) (t : Env) (g : G) (n : Nat) : Prop :=
C array_Array_Slots_id [(t 7)] g n fun v186 g8 n186 =>
C bellowsref05_Array_Slots_id [(t 9)] g8 n186 fun v188 g9 n188 =>
C bellowslaw05_Same_id [v186, v188] g9 n188 fun v189 g10 n189 =>
kUn .not v189 fun v190 =>
kSplit v190 (
aRet K (.bool false) g10 n189) (
bellowslaw05_ArrayPlays_j3 C K I_l1 (puts t [(185, (t 7)), (186, v186), (187, (t 9)), (188, v188), (189, v189), (190, v190)]) g10 n189)

def bellowslaw05_ArrayPlays_j4 (C : CT) (K : Cont) (I_l1 : ECont) (t : Env) (g : G) (n : Nat) : Prop :=
kPtr (t 12) fun l169 o169 =>
kLd g l169 (o169 + 1) fun v170 =>
kBin .int .geq v170 (.int .i64 0) fun v171 =>
kSplit v171 (
kPtr (t 12) fun l174 o174 =>
kLd g l174 (o174 + 1) fun v175 =>
C bellowsref05_Array_Free_id [(t 9), v175] g n fun v176 g28 n176 =>
kBin .int .geq v176 (.int .i64 0) fun v177 =>
kBin .bool .neq (t 16) v177 fun v179 =>
kSplit v179 (
aRet K (.bool false) g28 n176) (
kBin .int .neq (t 17) (t 18) fun v183 =>
kSplit v183 (
aRet K (.bool false) g28 n176) (
bellowslaw05_ArrayPlays_j2 C K I_l1 (puts t [(168, (t 16)), (169, (ptr l169 (o169 + 1))), (170, v170), (171, v171), (172, (.bool true)), (173, (t 9)), (174, (ptr l174 (o174 + 1))), (175, v175), (176, v176), (177, v177), (178, v177), (179, v179), (180, (.bool false)), (181, (t 17)), (182, (t 18)), (183, v183), (184, v183)]) g28 n176))) (
kBin .bool .neq (t 16) (.bool false) fun v179 =>
kSplit v179 (
aRet K (.bool false) g n) (
kBin .int .neq (t 17) (t 18) fun v183 =>
kSplit v183 (
aRet K (.bool false) g n) (
bellowslaw05_ArrayPlays_j2 C K I_l1 (puts t [(168, (t 16)), (169, (ptr l169 (o169 + 1))), (170, v170), (171, v171), (172, (.bool false)), (173, undef), (174, undef), (175, undef), (176, undef), (177, undef), (178, (.bool false)), (179, v179), (180, (.bool false)), (181, (t 17)), (182, (t 18)), (183, v183), (184, v183)]) g n)))

def bellowslaw05_ArrayPlays_l1 (C : CT) (K : Cont) (I_l1 : ECont) (t : Env) (g : G) (n : Nat) : Prop :=
kLen (t 2) fun v47 =>
kBin .int .lss (t 11) v47 fun v48 =>
kSplit v48 (
kBin .ptr .neq (t 9) (.pointer none) fun v51 =>
kSplit v51 (
kIndexAddr (t 2) (t 11) 11 fun v57 =>
kPtr v57 fun l58 o58 =>
kLdN g l58 o58 11 fun c58 =>
kNew [(.int .i64 0), (.int .i64 0), (.int .i64 0), (.int .u64 0), (.int .u64 0), (.int .u64 0), (.int .u64 0), (.int .u64 0), (.int .u64 0), (.int .u64 0), (.int .u64 0)] .exact g n fun l12 g4 n12 =>
kAgg (.agg c58.toArray) fun cg5 =>
cg5.length = 11 ∧ kStN g4 l12 0 cg5 fun g5 =>
kLd g5 l12 (0 + 0) fun v60 =>
kBin .int .eql v60 (.int .i64 0) fun v62 =>
kSplit v62 (
kLd g5 l12 (0 + 1) fun v65 =>
kLd g5 l12 (0 + 2) fun v67 =>
kLdN g5 l12 (0 + 3) 8 fun c69 =>
kLd g5 l12 (0 + 1) fun v73 =>
kLd g5 l12 (0 + 2) fun v75 =>
kLdN g5 l12 (0 + 3) 8 fun c77 =>
C array_Array_Set_id [(t 7), v65, v67, (.agg c69.toArray)] g5 n12 fun v70 g6 n70 =>
(kPtr (ptr l12 (0 + 1)) fun l _ => g6 l = g5 l) ∧ (kPtr (ptr l12 (0 + 2)) fun l _ => g6 l = g5 l) ∧ (kPtr (ptr l12 (0 + 3)) fun l _ => g6 l = g5 l) ∧ C bellowsref05_Array_Set_id [(t 9), v73, v75, (.agg c77.toArray)] g6 n70 fun v78 g7 n78 =>
kBin .int .neq v70 v78 fun v79 =>
kSplit v79 (
aRet K (.bool false) g7 n78) (
bellowslaw05_ArrayPlays_j2 C K I_l1 (puts t [(45, (t 11)), (46, (t 2)), (47, v47), (48, v48), (49, (.bool true)), (50, (t 9)), (51, v51), (52, v51), (55, (t 2)), (56, (t 11)), (57, v57), (58, (.agg c58.toArray)), (12, (ptr l12 0)), (59, (ptr l12 (0 + 0))), (60, v60), (62, v62), (61, v62), (63, (t 7)), (64, (ptr l12 (0 + 1))), (65, v65), (66, (ptr l12 (0 + 2))), (67, v67), (68, (ptr l12 (0 + 3))), (69, (.agg c69.toArray)), (71, (t 9)), (72, (ptr l12 (0 + 1))), (73, v73), (74, (ptr l12 (0 + 2))), (75, v75), (76, (ptr l12 (0 + 3))), (77, (.agg c77.toArray)), (70, v70), (78, v78), (79, v79)]) g7 n78)) (
kBin .int .eql v60 (.int .i64 1) fun v81 =>
kSplit v81 (
kLd g5 l12 (0 + 1) fun v84 =>
C array_Array_Touch_id [(t 7), v84] g5 n12 fun v85 g11 n85 =>
kLd g11 l12 (0 + 1) fun v88 =>
C bellowsref05_Array_Touch_id [(t 9), v88] g11 n85 fun v89 g12 n89 =>
bellowslaw05_ArrayPlays_j2 C K I_l1 (puts t [(45, (t 11)), (46, (t 2)), (47, v47), (48, v48), (49, (.bool true)), (50, (t 9)), (51, v51), (52, v51), (55, (t 2)), (56, (t 11)), (57, v57), (58, (.agg c58.toArray)), (12, (ptr l12 0)), (59, (ptr l12 (0 + 0))), (60, v60), (62, v62), (61, v62), (81, v81), (80, v81), (82, (t 7)), (83, (ptr l12 (0 + 1))), (84, v84), (85, v85), (86, (t 9)), (87, (ptr l12 (0 + 1))), (88, v88), (89, v89)]) g12 n89) (
kBin .int .eql v60 (.int .i64 2) fun v91 =>
kSplit v91 (
kLd g5 l12 (0 + 1) fun v94 =>
kLd g5 l12 (0 + 1) fun v98 =>
C array_Array_Drop_id [(t 7), v94] g5 n12 fun v95 g13 n95 =>
(kPtr (ptr l12 (0 + 1)) fun l _ => g13 l = g5 l) ∧ C bellowsref05_Array_Drop_id [(t 9), v98] g13 n95 fun v99 g14 n99 =>
kBin .bool .neq v95 v99 fun v100 =>
kSplit v100 (
aRet K (.bool false) g14 n99) (
bellowslaw05_ArrayPlays_j2 C K I_l1 (puts t [(45, (t 11)), (46, (t 2)), (47, v47), (48, v48), (49, (.bool true)), (50, (t 9)), (51, v51), (52, v51), (55, (t 2)), (56, (t 11)), (57, v57), (58, (.agg c58.toArray)), (12, (ptr l12 0)), (59, (ptr l12 (0 + 0))), (60, v60), (62, v62), (61, v62), (81, v81), (80, v81), (91, v91), (90, v91), (92, (t 7)), (93, (ptr l12 (0 + 1))), (94, v94), (96, (t 9)), (97, (ptr l12 (0 + 1))), (98, v98), (95, v95), (99, v99), (100, v100)]) g14 n99)) (
kBin .int .eql v60 (.int .i64 3) fun v102 =>
kSplit v102 (
kLd g5 l12 (0 + 1) fun v106 =>
C array_Array_Find_id [(t 7), v106] g5 n12 fun v107 g15 n107 =>
kExtract v107 0 fun v108 =>
kExtract v107 1 fun v109 =>
kNew [(.int .i64 0), (.int .i64 0), (.int .u64 0), (.int .u64 0), (.int .u64 0), (.int .u64 0), (.int .u64 0), (.int .u64 0), (.int .u64 0), (.int .u64 0), (.int .i64 0)] .exact g15 n107 fun l13 g16 n13 =>
kAgg v108 fun cg17 =>
cg17.length = 11 ∧ kStN g16 l13 0 cg17 fun g17 =>
kLd g17 l12 (0 + 1) fun v112 =>
C bellowsref05_Array_At_id [(t 9), v112] g17 n13 fun v113 g18 n113 =>
kBin .int .geq v113 (.int .i64 0) fun v116 =>
kBin .bool .neq v109 v116 fun v117 =>
kSplit v117 (
(aRet K (.bool false) g18 n113) ∧ (aRet K (.bool false) g18 n113)) (
kBin .int .geq v113 (.int .i64 0) fun v120 =>
kSplit v120 (
kLdN g18 l13 0 11 fun c122 =>
kNil (t 9) fun v125 =>
kPtr v125 fun l126 o126 =>
kLd g18 l126 (o126 + 2) fun v127 =>
kIndexAddr v127 v113 11 fun v129 =>
kPtr v129 fun l130 o130 =>
kLdN g18 l130 o130 11 fun c130 =>
(kFill (reps 1 [(.int .i64 0), (.int .i64 0), (.int .u64 0), (.int .u64 0), (.int .u64 0), (.int .u64 0), (.int .u64 0), (.int .u64 0), (.int .u64 0), (.int .u64 0), (.int .i64 0)]) [(0, (some 11), (.agg c122.toArray))] fun c123 =>
kNew c123 .exact g18 n113 fun l123 g19 n123 =>
(kPtr (ptr l126 (o126 + 2)) fun l _ => g19 l = g18 l) ∧ (kPtr v129 fun l _ => g19 l = g18 l) ∧ kFill (reps 1 [(.int .i64 0), (.int .i64 0), (.int .u64 0), (.int .u64 0), (.int .u64 0), (.int .u64 0), (.int .u64 0), (.int .u64 0), (.int .u64 0), (.int .u64 0), (.int .i64 0)]) [(0, (some 11), (.agg c130.toArray))] fun c131 =>
kNew c131 .exact g19 n123 fun l131 g20 n131 =>
(kPtr (ptr l13 0) fun l _ => g20 l = g19 l) ∧ C bellowslaw05_Same_id [(.slice (some ⟨l123, 0, none⟩) 1 1), (.slice (some ⟨l131, 0, none⟩) 1 1)] g20 n131 fun v132 g21 n132 =>
kUn .not v132 fun v133 =>
kSplit v133 (
aRet K (.bool false) g21 n132) (
kBin .int .lss v113 (.int .i64 0) fun v138 =>
kSplit v138 (
kLdN g21 l13 0 11 fun c140 =>
kFill [(.int .i64 0), (.int .i64 0), (.int .u64 0), (.int .u64 0), (.int .u64 0), (.int .u64 0), (.int .u64 0), (.int .u64 0), (.int .u64 0), (.int .u64 0), (.int .i64 0)] [] fun c141 =>
kBin (.agg [.i, .i, .i, .i, .i, .i, .i, .i, .i, .i, .i]) .neq (.agg c140.toArray) (.agg c141.toArray) fun v142 =>
kSplit v142 (
aRet K (.bool false) g21 n132) (
bellowslaw05_ArrayPlays_j2 C K I_l1 (puts t [(45, (t 11)), (46, (t 2)), (47, v47), (48, v48), (49, (.bool true)), (50, (t 9)), (51, v51), (52, v51), (55, (t 2)), (56, (t 11)), (57, v57), (58, (.agg c58.toArray)), (12, (ptr l12 0)), (59, (ptr l12 (0 + 0))), (60, v60), (62, v62), (61, v62), (81, v81), (80, v81), (91, v91), (90, v91), (102, v102), (101, v102), (104, (t 7)), (105, (ptr l12 (0 + 1))), (106, v106), (107, v107), (103, v107), (108, v108), (109, v109), (13, (ptr l13 0)), (14, v109), (110, (t 9)), (111, (ptr l12 (0 + 1))), (112, v112), (113, v113), (15, v113), (114, v109), (115, v113), (116, v116), (117, v117), (118, (.bool false)), (119, v113), (120, v120), (121, (.bool true)), (122, (.agg c122.toArray)), (124, (t 9)), (125, v125), (126, (ptr l126 (o126 + 2))), (127, v127), (128, v113), (129, v129), (130, (.agg c130.toArray)), (123, (.slice (some ⟨l123, 0, none⟩) 1 1)), (131, (.slice (some ⟨l131, 0, none⟩) 1 1)), (132, v132), (133, v133), (134, v133), (135, v133), (136, (.bool false)), (137, v113), (138, v138), (139, (.bool true)), (140, (.agg c140.toArray)), (141, (.agg c141.toArray)), (142, v142), (143, v142), (144, v142)]) g21 n132)) (
bellowslaw05_ArrayPlays_j2 C K I_l1 (puts t [(45, (t 11)), (46, (t 2)), (47, v47), (48, v48), (49, (.bool true)), (50, (t 9)), (51, v51), (52, v51), (55, (t 2)), (56, (t 11)), (57, v57), (58, (.agg c58.toArray)), (12, (ptr l12 0)), (59, (ptr l12 (0 + 0))), (60, v60), (62, v62), (61, v62), (81, v81), (80, v81), (91, v91), (90, v91), (102, v102), (101, v102), (104, (t 7)), (105, (ptr l12 (0 + 1))), (106, v106), (107, v107), (103, v107), (108, v108), (109, v109), (13, (ptr l13 0)), (14, v109), (110, (t 9)), (111, (ptr l12 (0 + 1))), (112, v112), (113, v113), (15, v113), (114, v109), (115, v113), (116, v116), (117, v117), (118, (.bool false)), (119, v113), (120, v120), (121, (.bool true)), (122, (.agg c122.toArray)), (124, (t 9)), (125, v125), (126, (ptr l126 (o126 + 2))), (127, v127), (128, v113), (129, v129), (130, (.agg c130.toArray)), (123, (.slice (some ⟨l123, 0, none⟩) 1 1)), (131, (.slice (some ⟨l131, 0, none⟩) 1 1)), (132, v132), (133, v133), (134, v133), (135, v133), (136, (.bool false)), (137, v113), (138, v138), (139, (.bool false)), (140, undef), (141, undef), (142, undef), (143, (.bool false)), (144, (.bool false))]) g21 n132))) ∧ (kFill (reps 1 [(.int .i64 0), (.int .i64 0), (.int .u64 0), (.int .u64 0), (.int .u64 0), (.int .u64 0), (.int .u64 0), (.int .u64 0), (.int .u64 0), (.int .u64 0), (.int .i64 0)]) [(0, (some 11), (.agg c130.toArray))] fun c131 =>
kNew c131 .exact g18 n113 fun l131 g22 n131 =>
(kPtr (ptr l13 0) fun l _ => g22 l = g18 l) ∧ kFill (reps 1 [(.int .i64 0), (.int .i64 0), (.int .u64 0), (.int .u64 0), (.int .u64 0), (.int .u64 0), (.int .u64 0), (.int .u64 0), (.int .u64 0), (.int .u64 0), (.int .i64 0)]) [(0, (some 11), (.agg c122.toArray))] fun c123 =>
kNew c123 .exact g22 n131 fun l123 g23 n123 =>
(kPtr (ptr l126 (o126 + 2)) fun l _ => g23 l = g22 l) ∧ (kPtr v129 fun l _ => g23 l = g22 l) ∧ C bellowslaw05_Same_id [(.slice (some ⟨l123, 0, none⟩) 1 1), (.slice (some ⟨l131, 0, none⟩) 1 1)] g23 n123 fun v132 g24 n132 =>
kUn .not v132 fun v133 =>
kSplit v133 (
aRet K (.bool false) g24 n132) (
kBin .int .lss v113 (.int .i64 0) fun v138 =>
kSplit v138 (
kLdN g24 l13 0 11 fun c140 =>
kFill [(.int .i64 0), (.int .i64 0), (.int .u64 0), (.int .u64 0), (.int .u64 0), (.int .u64 0), (.int .u64 0), (.int .u64 0), (.int .u64 0), (.int .u64 0), (.int .i64 0)] [] fun c141 =>
kBin (.agg [.i, .i, .i, .i, .i, .i, .i, .i, .i, .i, .i]) .neq (.agg c140.toArray) (.agg c141.toArray) fun v142 =>
kSplit v142 (
aRet K (.bool false) g24 n132) (
bellowslaw05_ArrayPlays_j2 C K I_l1 (puts t [(45, (t 11)), (46, (t 2)), (47, v47), (48, v48), (49, (.bool true)), (50, (t 9)), (51, v51), (52, v51), (55, (t 2)), (56, (t 11)), (57, v57), (58, (.agg c58.toArray)), (12, (ptr l12 0)), (59, (ptr l12 (0 + 0))), (60, v60), (62, v62), (61, v62), (81, v81), (80, v81), (91, v91), (90, v91), (102, v102), (101, v102), (104, (t 7)), (105, (ptr l12 (0 + 1))), (106, v106), (107, v107), (103, v107), (108, v108), (109, v109), (13, (ptr l13 0)), (14, v109), (110, (t 9)), (111, (ptr l12 (0 + 1))), (112, v112), (113, v113), (15, v113), (114, v109), (115, v113), (116, v116), (117, v117), (118, (.bool false)), (119, v113), (120, v120), (121, (.bool true)), (122, (.agg c122.toArray)), (124, (t 9)), (125, v125), (126, (ptr l126 (o126 + 2))), (127, v127), (128, v113), (129, v129), (130, (.agg c130.toArray)), (131, (.slice (some ⟨l131, 0, none⟩) 1 1)), (123, (.slice (some ⟨l123, 0, none⟩) 1 1)), (132, v132), (133, v133), (134, v133), (135, v133), (136, (.bool false)), (137, v113), (138, v138), (139, (.bool true)), (140, (.agg c140.toArray)), (141, (.agg c141.toArray)), (142, v142), (143, v142), (144, v142)]) g24 n132)) (
bellowslaw05_ArrayPlays_j2 C K I_l1 (puts t [(45, (t 11)), (46, (t 2)), (47, v47), (48, v48), (49, (.bool true)), (50, (t 9)), (51, v51), (52, v51), (55, (t 2)), (56, (t 11)), (57, v57), (58, (.agg c58.toArray)), (12, (ptr l12 0)), (59, (ptr l12 (0 + 0))), (60, v60), (62, v62), (61, v62), (81, v81), (80, v81), (91, v91), (90, v91), (102, v102), (101, v102), (104, (t 7)), (105, (ptr l12 (0 + 1))), (106, v106), (107, v107), (103, v107), (108, v108), (109, v109), (13, (ptr l13 0)), (14, v109), (110, (t 9)), (111, (ptr l12 (0 + 1))), (112, v112), (113, v113), (15, v113), (114, v109), (115, v113), (116, v116), (117, v117), (118, (.bool false)), (119, v113), (120, v120), (121, (.bool true)), (122, (.agg c122.toArray)), (124, (t 9)), (125, v125), (126, (ptr l126 (o126 + 2))), (127, v127), (128, v113), (129, v129), (130, (.agg c130.toArray)), (131, (.slice (some ⟨l131, 0, none⟩) 1 1)), (123, (.slice (some ⟨l123, 0, none⟩) 1 1)), (132, v132), (133, v133), (134, v133), (135, v133), (136, (.bool false)), (137, v113), (138, v138), (139, (.bool false)), (140, undef), (141, undef), (142, undef), (143, (.bool false)), (144, (.bool false))]) g24 n132)))) (
(kBin .int .lss v113 (.int .i64 0) fun v138 =>
kSplit v138 (
kLdN g18 l13 0 11 fun c140 =>
kFill [(.int .i64 0), (.int .i64 0), (.int .u64 0), (.int .u64 0), (.int .u64 0), (.int .u64 0), (.int .u64 0), (.int .u64 0), (.int .u64 0), (.int .u64 0), (.int .i64 0)] [] fun c141 =>
kBin (.agg [.i, .i, .i, .i, .i, .i, .i, .i, .i, .i, .i]) .neq (.agg c140.toArray) (.agg c141.toArray) fun v142 =>
kSplit v142 (
aRet K (.bool false) g18 n113) (
bellowslaw05_ArrayPlays_j2 C K I_l1 (puts t [(45, (t 11)), (46, (t 2)), (47, v47), (48, v48), (49, (.bool true)), (50, (t 9)), (51, v51), (52, v51), (55, (t 2)), (56, (t 11)), (57, v57), (58, (.agg c58.toArray)), (12, (ptr l12 0)), (59, (ptr l12 (0 + 0))), (60, v60), (62, v62), (61, v62), (81, v81), (80, v81), (91, v91), (90, v91), (102, v102), (101, v102), (104, (t 7)), (105, (ptr l12 (0 + 1))), (106, v106), (107, v107), (103, v107), (108, v108), (109, v109), (13, (ptr l13 0)), (14, v109), (110, (t 9)), (111, (ptr l12 (0 + 1))), (112, v112), (113, v113), (15, v113), (114, v109), (115, v113), (116, v116), (117, v117), (118, (.bool false)), (119, v113), (120, v120), (121, (.bool false)), (122, undef), (124, undef), (125, undef), (126, undef), (127, undef), (128, undef), (129, undef), (130, undef), (123, undef), (131, undef), (132, undef), (133, undef), (134, (.bool false)), (135, (.bool false)), (136, (.bool false)), (137, v113), (138, v138), (139, (.bool true)), (140, (.agg c140.toArray)), (141, (.agg c141.toArray)), (142, v142), (143, v142), (144, v142)]) g18 n113)) (
bellowslaw05_ArrayPlays_j2 C K I_l1 (puts t [(45, (t 11)), (46, (t 2)), (47, v47), (48, v48), (49, (.bool true)), (50, (t 9)), (51, v51), (52, v51), (55, (t 2)), (56, (t 11)), (57, v57), (58, (.agg c58.toArray)), (12, (ptr l12 0)), (59, (ptr l12 (0 + 0))), (60, v60), (62, v62), (61, v62), (81, v81), (80, v81), (91, v91), (90, v91), (102, v102), (101, v102), (104, (t 7)), (105, (ptr l12 (0 + 1))), (106, v106), (107, v107), (103, v107), (108, v108), (109, v109), (13, (ptr l13 0)), (14, v109), (110, (t 9)), (111, (ptr l12 (0 + 1))), (112, v112), (113, v113), (15, v113), (114, v109), (115, v113), (116, v116), (117, v117), (118, (.bool false)), (119, v113), (120, v120), (121, (.bool false)), (122, undef), (124, undef), (125, undef), (126, undef), (127, undef), (128, undef), (129, undef), (130, undef), (123, undef), (131, undef), (132, undef), (133, undef), (134, (.bool false)), (135, (.bool false)), (136, (.bool false)), (137, v113), (138, v138), (139, (.bool false)), (140, undef), (141, undef), (142, undef), (143, (.bool false)), (144, (.bool false))]) g18 n113)) ∧ (kBin .int .lss v113 (.int .i64 0) fun v138 =>
kSplit v138 (
kLdN g18 l13 0 11 fun c140 =>
kFill [(.int .i64 0), (.int .i64 0), (.int .u64 0), (.int .u64 0), (.int .u64 0), (.int .u64 0), (.int .u64 0), (.int .u64 0), (.int .u64 0), (.int .u64 0), (.int .i64 0)] [] fun c141 =>
kBin (.agg [.i, .i, .i, .i, .i, .i, .i, .i, .i, .i, .i]) .neq (.agg c140.toArray) (.agg c141.toArray) fun v142 =>
kSplit v142 (
aRet K (.bool false) g18 n113) (
bellowslaw05_ArrayPlays_j2 C K I_l1 (puts t [(45, (t 11)), (46, (t 2)), (47, v47), (48, v48), (49, (.bool true)), (50, (t 9)), (51, v51), (52, v51), (55, (t 2)), (56, (t 11)), (57, v57), (58, (.agg c58.toArray)), (12, (ptr l12 0)), (59, (ptr l12 (0 + 0))), (60, v60), (62, v62), (61, v62), (81, v81), (80, v81), (91, v91), (90, v91), (102, v102), (101, v102), (104, (t 7)), (105, (ptr l12 (0 + 1))), (106, v106), (107, v107), (103, v107), (108, v108), (109, v109), (13, (ptr l13 0)), (14, v109), (110, (t 9)), (111, (ptr l12 (0 + 1))), (112, v112), (113, v113), (15, v113), (114, v109), (115, v113), (116, v116), (117, v117), (118, (.bool false)), (119, v113), (120, v120), (121, (.bool false)), (122, undef), (124, undef), (125, undef), (126, undef), (127, undef), (128, undef), (129, undef), (130, undef), (131, undef), (123, undef), (132, undef), (133, undef), (134, (.bool false)), (135, (.bool false)), (136, (.bool false)), (137, v113), (138, v138), (139, (.bool true)), (140, (.agg c140.toArray)), (141, (.agg c141.toArray)), (142, v142), (143, v142), (144, v142)]) g18 n113)) (
bellowslaw05_ArrayPlays_j2 C K I_l1 (puts t [(45, (t 11)), (46, (t 2)), (47, v47), (48, v48), (49, (.bool true)), (50, (t 9)), (51, v51), (52, v51), (55, (t 2)), (56, (t 11)), (57, v57), (58, (.agg c58.toArray)), (12, (ptr l12 0)), (59, (ptr l12 (0 + 0))), (60, v60), (62, v62), (61, v62), (81, v81), (80, v81), (91, v91), (90, v91), (102, v102), (101, v102), (104, (t 7)), (105, (ptr l12 (0 + 1))), (106, v106), (107, v107), (103, v107), (108, v108), (109, v109), (13, (ptr l13 0)), (14, v109), (110, (t 9)), (111, (ptr l12 (0 + 1))), (112, v112), (113, v113), (15, v113), (114, v109), (115, v113), (116, v116), (117, v117), (118, (.bool false)), (119, v113), (120, v120), (121, (.bool false)), (122, undef), (124, undef), (125, undef), (126, undef), (127, undef), (128, undef), (129, undef), (130, undef), (131, undef), (123, undef), (132, undef), (133, undef), (134, (.bool false)), (135, (.bool false)), (136, (.bool false)), (137, v113), (138, v138), (139, (.bool false)), (140, undef), (141, undef), (142, undef), (143, (.bool false)), (144, (.bool false))]) g18 n113))))) (
kBin .int .eql v60 (.int .i64 4) fun v146 =>
kSplit v146 (
kLd g5 l12 (0 + 1) fun v150 =>
C array_Array_Room_id [(t 7), v150] g5 n12 fun v151 g25 n151 =>
kExtract v151 0 fun v152 =>
kExtract v151 1 fun v153 =>
kLd g25 l12 (0 + 1) fun v155 =>
kBin .int .geq v155 (.int .i64 0) fun v156 =>
kSplit v156 (
kLd g25 l12 (0 + 1) fun v160 =>
C bellowsref05_Array_Free_id [(t 9), v160] g25 n151 fun v161 g26 n161 =>
kBin .int .lss v161 (.int .i64 0) fun v162 =>
kSplit v162 (
kLd g26 l12 (0 + 1) fun v166 =>
C bellowsref05_Array_Victim_id [(t 9), v166] g26 n161 fun v167 g27 n167 =>
bellowslaw05_ArrayPlays_j4 C K I_l1 (puts t [(45, (t 11)), (46, (t 2)), (47, v47), (48, v48), (49, (.bool true)), (50, (t 9)), (51, v51), (52, v51), (55, (t 2)), (56, (t 11)), (57, v57), (58, (.agg c58.toArray)), (12, (ptr l12 0)), (59, (ptr l12 (0 + 0))), (60, v60), (62, v62), (61, v62), (81, v81), (80, v81), (91, v91), (90, v91), (102, v102), (101, v102), (146, v146), (145, v146), (148, (t 7)), (149, (ptr l12 (0 + 1))), (150, v150), (151, v151), (147, v151), (152, v152), (153, v153), (16, v152), (17, v153), (18, (.int .i64 (-1))), (154, (ptr l12 (0 + 1))), (155, v155), (156, v156), (157, (.bool true)), (158, (t 9)), (159, (ptr l12 (0 + 1))), (160, v160), (161, v161), (162, v162), (163, v162), (164, (t 9)), (165, (ptr l12 (0 + 1))), (166, v166), (167, v167), (18, v167)]) g27 n167) (
bellowslaw05_ArrayPlays_j4 C K I_l1 (puts t [(45, (t 11)), (46, (t 2)), (47, v47), (48, v48), (49, (.bool true)), (50, (t 9)), (51, v51), (52, v51), (55, (t 2)), (56, (t 11)), (57, v57), (58, (.agg c58.toArray)), (12, (ptr l12 0)), (59, (ptr l12 (0 + 0))), (60, v60), (62, v62), (61, v62), (81, v81), (80, v81), (91, v91), (90, v91), (102, v102), (101, v102), (146, v146), (145, v146), (148, (t 7)), (149, (ptr l12 (0 + 1))), (150, v150), (151, v151), (147, v151), (152, v152), (153, v153), (16, v152), (17, v153), (18, (.int .i64 (-1))), (154, (ptr l12 (0 + 1))), (155, v155), (156, v156), (157, (.bool true)), (158, (t 9)), (159, (ptr l12 (0 + 1))), (160, v160), (161, v161), (162, v162), (163, v162)]) g26 n161)) (
bellowslaw05_ArrayPlays_j4 C K I_l1 (puts t [(45, (t 11)), (46, (t 2)), (47, v47), (48, v48), (49, (.bool true)), (50, (t 9)), (51, v51), (52, v51), (55, (t 2)), (56, (t 11)), (57, v57), (58, (.agg c58.toArray)), (12, (ptr l12 0)), (59, (ptr l12 (0 + 0))), (60, v60), (62, v62), (61, v62), (81, v81), (80, v81), (91, v91), (90, v91), (102, v102), (101, v102), (146, v146), (145, v146), (148, (t 7)), (149, (ptr l12 (0 + 1))), (150, v150), (151, v151), (147, v151), (152, v152), (153, v153), (16, v152), (17, v153), (18, (.int .i64 (-1))), (154, (ptr l12 (0 + 1))), (155, v155), (156, v156), (157, (.bool false)), (158, undef), (159, undef), (160, undef), (161, undef), (162, undef), (163, (.bool false))]) g25 n151)) (
bellowslaw05_ArrayPlays_j2 C K I_l1 (puts t [(45, (t 11)), (46, (t 2)), (47, v47), (48, v48), (49, (.bool true)), (50, (t 9)), (51, v51), (52, v51), (55, (t 2)), (56, (t 11)), (57, v57), (58, (.agg c58.toArray)), (12, (ptr l12 0)), (59, (ptr l12 (0 + 0))), (60, v60), (62, v62), (61, v62), (81, v81), (80, v81), (91, v91), (90, v91), (102, v102), (101, v102), (146, v146), (145, v146)]) g5 n12)))))) (
C bellowslaw05_wakes_id [] g n fun v191 g29 n191 =>
aRet K v191 g29 n191)) (
C bellowslaw05_wakes_id [] g n fun v191 g30 n191 =>
aRet K v191 g30 n191)

def bellowslaw05_ArrayPlays (C : CT) (a0 a1 a2 : Value) (g : G) (n : Nat) (K : Cont) : Prop :=
kLen a2 fun v20 =>
kBin .int .gtr v20 (.int .i64 200) fun v21 =>
kSplit v21 (
C bellowslaw05_wakes_id [] g n fun v22 g1 n22 =>
aRet K v22 g1 n22) (
C array_New_id [a0, a1] g n fun v26 g2 n26 =>
kExtract v26 0 fun v27 =>
kExtract v26 1 fun v28 =>
C bellowsref05_New_id [a0, a1] g2 n26 fun v32 g3 n32 =>
kExtract v32 0 fun v33 =>
kExtract v32 1 fun v34 =>
kBin .int .neq v28 v34 fun v37 =>
kSplit v37 (
aRet K (.bool false) g3 n32) (
kBin .ptr .eql v27 (.pointer none) fun v40 =>
kBin .ptr .eql v33 (.pointer none) fun v42 =>
kBin .bool .neq v40 v42 fun v43 =>
kSplit v43 (
aRet K (.bool false) g3 n32) (
lfp (bellowslaw05_ArrayPlays_l1 C K) (puts (args0 [a0, a1, a2]) [(6, (.bool false)), (19, a2), (20, v20), (21, v21), (24, a0), (25, a1), (26, v26), (23, v26), (27, v27), (28, v28), (7, v27), (8, v28), (30, a0), (31, a1), (32, v32), (29, v32), (33, v33), (34, v34), (9, v33), (10, v34), (35, v28), (36, v34), (37, v37), (38, (.bool false)), (39, v27), (40, v40), (41, v33), (42, v42), (43, v43), (44, v43), (11, (.int .i64 0))]) g3 n32)))

theorem bellowslaw05_ArrayPlays_eq (C : CT) (a0 a1 a2 : Value) (g : G) (n : Nat) (K : Cont) : bellowslaw05_ArrayPlays C a0 a1 a2 g n K = abody Try.prog C bellowslaw05_ArrayPlays_id [a0, a1, a2] g n K := by kernel_rfl

/- bellows/bellowslaw05.ArrayOnce -/
def bellowslaw05_ArrayOnce_j5 (C : CT) (K : Cont) (I_l1 : ECont) (I_l3 : ECont) (I_l4 : ECont) (t : Env) (g : G) (n : Nat) : Prop :=
kBin .int .add (t 16) (.int .i64 1) fun v103 =>
I_l4 (puts t [(102, (t 16)), (103, v103), (16, v103)]) g n

def bellowslaw05_ArrayOnce_j7 (C : CT) (K : Cont) (I_l1 : ECont) (I_l3 : ECont) (t : Env) (g : G) (n : Nat) : Prop :=
kBin .int .add (t 14) (.int .i64 1) fun v97 =>
I_l3 (puts t [(96, (t 14)), (97, v97), (14, v97)]) g n

def bellowslaw05_ArrayOnce_j6 (C : CT) (K : Cont) (I_l1 : ECont) (I_l3 : ECont) (t : Env) (g : G) (n : Nat) : Prop :=
kBin .int .gtr (t 15) (t 8) fun v152 =>
kSplit v152 (
aRet K (.bool false) g n) (
bellowslaw05_ArrayOnce_j7 C K I_l1 I_l3 (puts t [(150, (t 15)), (151, (t 8)), (152, v152)]) g n)

def bellowslaw05_ArrayOnce_l4 (C : CT) (K : Cont) (I_l1 : ECont) (I_l3 : ECont) (I_l4 : ECont) (t : Env) (g : G) (n : Nat) : Prop :=
kLen (t 13) fun v100 =>
kBin .int .lss (t 16) v100 fun v101 =>
kSplit v101 (
kBin .int .neq (t 16) (t 14) fun v106 =>
kSplit v106 (
kIndexAddr (t 13) (t 16) 11 fun v110 =>
kPtr v110 fun l111 o111 =>
kLd g l111 (o111 + 1) fun v112 =>
kIndexAddr (t 13) (t 14) 11 fun v115 =>
kPtr v115 fun l116 o116 =>
kLd g l116 (o116 + 1) fun v117 =>
kBin .int .eql v112 v117 fun v118 =>
kSplit v118 (
aRet K (.bool false) g n) (
kIndexAddr (t 13) (t 16) 11 fun v122 =>
kPtr v122 fun l123 o123 =>
kLd g l123 (o123 + 10) fun v124 =>
kIndexAddr (t 13) (t 14) 11 fun v127 =>
kPtr v127 fun l128 o128 =>
kLd g l128 (o128 + 10) fun v129 =>
kBin .int .eql v124 v129 fun v130 =>
kSplit v130 (
aRet K (.bool false) g n) (
kIndexAddr (t 13) (t 16) 11 fun v136 =>
kPtr v136 fun l137 o137 =>
kLd g l137 (o137 + 1) fun v138 =>
kIndexAddr (t 13) (t 14) 11 fun v143 =>
kPtr v143 fun l144 o144 =>
kLd g l144 (o144 + 1) fun v145 =>
C bellowsref04_Set_id [(t 7), v138] g n fun v139 g9 n139 =>
(kPtr (ptr l144 (o144 + 1)) fun l _ => g9 l = g l) ∧ C bellowsref04_Set_id [(t 7), v145] g9 n139 fun v146 g10 n146 =>
kBin .int .eql v139 v146 fun v147 =>
kSplit v147 (
kBin .int .add (t 15) (.int .i64 1) fun v149 =>
bellowslaw05_ArrayOnce_j5 C K I_l1 I_l3 I_l4 (puts t [(98, (t 16)), (99, (t 13)), (100, v100), (101, v101), (104, (t 16)), (105, (t 14)), (106, v106), (107, (.bool true)), (108, (t 13)), (109, (t 16)), (110, v110), (111, (ptr l111 (o111 + 1))), (112, v112), (113, (t 13)), (114, (t 14)), (115, v115), (116, (ptr l116 (o116 + 1))), (117, v117), (118, v118), (119, (.bool false)), (120, (t 13)), (121, (t 16)), (122, v122), (123, (ptr l123 (o123 + 10))), (124, v124), (125, (t 13)), (126, (t 14)), (127, v127), (128, (ptr l128 (o128 + 10))), (129, v129), (130, v130), (131, v130), (132, v130), (133, (t 7)), (134, (t 13)), (135, (t 16)), (136, v136), (137, (ptr l137 (o137 + 1))), (138, v138), (140, (t 7)), (141, (t 13)), (142, (t 14)), (143, v143), (144, (ptr l144 (o144 + 1))), (145, v145), (139, v139), (146, v146), (147, v147), (148, (t 15)), (149, v149), (15, v149)]) g10 n146) (
bellowslaw05_ArrayOnce_j5 C K I_l1 I_l3 I_l4 (puts t [(98, (t 16)), (99, (t 13)), (100, v100), (101, v101), (104, (t 16)), (105, (t 14)), (106, v106), (107, (.bool true)), (108, (t 13)), (109, (t 16)), (110, v110), (111, (ptr l111 (o111 + 1))), (112, v112), (113, (t 13)), (114, (t 14)), (115, v115), (116, (ptr l116 (o116 + 1))), (117, v117), (118, v118), (119, (.bool false)), (120, (t 13)), (121, (t 16)), (122, v122), (123, (ptr l123 (o123 + 10))), (124, v124), (125, (t 13)), (126, (t 14)), (127, v127), (128, (ptr l128 (o128 + 10))), (129, v129), (130, v130), (131, v130), (132, v130), (133, (t 7)), (134, (t 13)), (135, (t 16)), (136, v136), (137, (ptr l137 (o137 + 1))), (138, v138), (140, (t 7)), (141, (t 13)), (142, (t 14)), (143, v143), (144, (ptr l144 (o144 + 1))), (145, v145), (139, v139), (146, v146), (147, v147)]) g10 n146)))) (
kIndexAddr (t 13) (t 16) 11 fun v136 =>
kPtr v136 fun l137 o137 =>
kLd g l137 (o137 + 1) fun v138 =>
kIndexAddr (t 13) (t 14) 11 fun v143 =>
kPtr v143 fun l144 o144 =>
kLd g l144 (o144 + 1) fun v145 =>
C bellowsref04_Set_id [(t 7), v138] g n fun v139 g11 n139 =>
(kPtr (ptr l144 (o144 + 1)) fun l _ => g11 l = g l) ∧ C bellowsref04_Set_id [(t 7), v145] g11 n139 fun v146 g12 n146 =>
kBin .int .eql v139 v146 fun v147 =>
kSplit v147 (
kBin .int .add (t 15) (.int .i64 1) fun v149 =>
bellowslaw05_ArrayOnce_j5 C K I_l1 I_l3 I_l4 (puts t [(98, (t 16)), (99, (t 13)), (100, v100), (101, v101), (104, (t 16)), (105, (t 14)), (106, v106), (107, (.bool false)), (108, undef), (109, undef), (110, undef), (111, undef), (112, undef), (113, undef), (114, undef), (115, undef), (116, undef), (117, undef), (118, undef), (119, undef), (120, undef), (121, undef), (122, undef), (123, undef), (124, undef), (125, undef), (126, undef), (127, undef), (128, undef), (129, undef), (130, undef), (131, undef), (132, (.bool false)), (133, (t 7)), (134, (t 13)), (135, (t 16)), (136, v136), (137, (ptr l137 (o137 + 1))), (138, v138), (140, (t 7)), (141, (t 13)), (142, (t 14)), (143, v143), (144, (ptr l144 (o144 + 1))), (145, v145), (139, v139), (146, v146), (147, v147), (148, (t 15)), (149, v149), (15, v149)]) g12 n146) (
bellowslaw05_ArrayOnce_j5 C K I_l1 I_l3 I_l4 (puts t [(98, (t 16)), (99, (t 13)), (100, v100), (101, v101), (104, (t 16)), (105, (t 14)), (106, v106), (107, (.bool false)), (108, undef), (109, undef), (110, undef), (111, undef), (112, undef), (113, undef), (114, undef), (115, undef), (116, undef), (117, undef), (118, undef), (119, undef), (120, undef), (121, undef), (122, undef), (123, undef), (124, undef), (125, undef), (126, undef), (127, undef), (128, undef), (129, undef), (130, undef), (131, undef), (132, (.bool false)), (133, (t 7)), (134, (t 13)), (135, (t 16)), (136, v136), (137, (ptr l137 (o137 + 1))), (138, v138), (140, (t 7)), (141, (t 13)), (142, (t 14)), (143, v143), (144, (ptr l144 (o144 + 1))), (145, v145), (139, v139), (146, v146), (147, v147)]) g12 n146))) (
bellowslaw05_ArrayOnce_j6 C K I_l1 I_l3 (puts t [(98, (t 16)), (99, (t 13)), (100, v100), (101, v101)]) g n)

def bellowslaw05_ArrayOnce_j9 (C : CT) (K : Cont) (I_l1 : ECont) (t : Env) (g : G) (n : Nat) : Prop :=
kBin .int .add (t 11) (.int .i64 1) fun v61 =>
I_l1 (puts t [(60, (t 11)), (61, v61), (11, v61)]) g n

def bellowslaw05_ArrayOnce_l10 (C : CT) (K : Cont) (I_l1 : ECont) (I_l10 : ECont) (t : Env) (g : G) (n : Nat) : Prop :=
kLen (t 13) fun v182 =>
kBin .int .lss (t 22) v182 fun v183 =>
kSplit v183 (
kIndexAddr (t 13) (t 22) 11 fun v188 =>
kPtr v188 fun l189 o189 =>
kLd g l189 (o189 + 0) fun v190 =>
kBin .int .leq v190 (.int .i64 3) fun v191 =>
kSplit v191 (
kIndexAddr (t 13) (t 22) 11 fun v196 =>
kPtr v196 fun l197 o197 =>
kLd g l197 (o197 + 1) fun v198 =>
C bellowsref04_Set_id [(t 7), v198] g n fun v199 g18 n199 =>
C bellowsref04_Set_id [(t 7), (t 17)] g18 n199 fun v202 g19 n202 =>
kBin .int .eql v199 v202 fun v203 =>
kSplit v203 (
kIndexAddr (t 13) (t 22) 11 fun v208 =>
kPtr v208 fun l209 o209 =>
kLd g19 l209 (o209 + 10) fun v210 =>
kPtr (t 20) fun l211 o211 =>
kLd g19 l211 (o211 + 10) fun v212 =>
kBin .int .lss v210 v212 fun v213 =>
kSplit v213 (
aRet K (.bool false) g19 n202) (
kBin .int .add (t 22) (.int .i64 1) fun v185 =>
I_l10 (puts t [(180, (t 22)), (181, (t 13)), (182, v182), (183, v183), (186, (t 13)), (187, (t 22)), (188, v188), (189, (ptr l189 (o189 + 0))), (190, v190), (191, v191), (192, (.bool true)), (193, (t 7)), (194, (t 13)), (195, (t 22)), (196, v196), (197, (ptr l197 (o197 + 1))), (198, v198), (200, (t 7)), (201, (t 17)), (199, v199), (202, v202), (203, v203), (204, v203), (205, (.bool true)), (206, (t 13)), (207, (t 22)), (208, v208), (209, (ptr l209 (o209 + 10))), (210, v210), (211, (ptr l211 (o211 + 10))), (212, v212), (213, v213), (214, v213), (184, (t 22)), (185, v185), (22, v185)]) g19 n202)) (
kBin .int .add (t 22) (.int .i64 1) fun v185 =>
I_l10 (puts t [(180, (t 22)), (181, (t 13)), (182, v182), (183, v183), (186, (t 13)), (187, (t 22)), (188, v188), (189, (ptr l189 (o189 + 0))), (190, v190), (191, v191), (192, (.bool true)), (193, (t 7)), (194, (t 13)), (195, (t 22)), (196, v196), (197, (ptr l197 (o197 + 1))), (198, v198), (200, (t 7)), (201, (t 17)), (199, v199), (202, v202), (203, v203), (204, v203), (205, (.bool false)), (206, undef), (207, undef), (208, undef), (209, undef), (210, undef), (211, undef), (212, undef), (213, undef), (214, (.bool false)), (184, (t 22)), (185, v185), (22, v185)]) g19 n202)) (
kBin .int .add (t 22) (.int .i64 1) fun v185 =>
I_l10 (puts t [(180, (t 22)), (181, (t 13)), (182, v182), (183, v183), (186, (t 13)), (187, (t 22)), (188, v188), (189, (ptr l189 (o189 + 0))), (190, v190), (191, v191), (192, (.bool false)), (193, undef), (194, undef), (195, undef), (196, undef), (197, undef), (198, undef), (200, undef), (201, undef), (199, undef), (202, undef), (203, undef), (204, (.bool false)), (205, (.bool false)), (206, undef), (207, undef), (208, undef), (209, undef), (210, undef), (211, undef), (212, undef), (213, undef), (214, (.bool false)), (184, (t 22)), (185, v185), (22, v185)]) g n)) (
bellowslaw05_ArrayOnce_j9 C K I_l1 (puts t [(180, (t 22)), (181, (t 13)), (182, v182), (183, v183)]) g n)

def bellowslaw05_ArrayOnce_j8 (C : CT) (K : Cont) (I_l1 : ECont) (t : Env) (g : G) (n : Nat) : Prop :=
kPtr (t 12) fun l153 o153 =>
kLd g l153 (o153 + 1) fun v154 =>
C bellowskeep_Mod_id [v154, (.int .i64 64)] g n fun v155 g13 n155 =>
C array_Array_Room_id [(t 9), v155] g13 n155 fun v159 g14 n159 =>
kExtract v159 0 fun v160 =>
kExtract v159 1 fun v161 =>
kSplit v160 (
bellowslaw05_ArrayOnce_j9 C K I_l1 (puts t [(153, (ptr l153 (o153 + 1))), (154, v154), (155, v155), (17, v155), (157, (t 9)), (158, v155), (159, v159), (156, v159), (160, v160), (161, v161), (18, v160), (19, v161), (162, v160), (163, (.bool true)), (164, undef), (165, undef), (166, (.bool true))]) g14 n159) (
kBin .int .lss v161 (.int .i64 0) fun v165 =>
kSplit v165 (
bellowslaw05_ArrayOnce_j9 C K I_l1 (puts t [(153, (ptr l153 (o153 + 1))), (154, v154), (155, v155), (17, v155), (157, (t 9)), (158, v155), (159, v159), (156, v159), (160, v160), (161, v161), (18, v160), (19, v161), (162, v160), (163, (.bool false)), (164, v161), (165, v165), (166, v165)]) g14 n159) (
C array_Array_Find_id [(t 9), v161] g14 n159 fun v170 g15 n170 =>
kExtract v170 0 fun v171 =>
kExtract v170 1 fun v172 =>
kNew [(.int .i64 0), (.int .i64 0), (.int .u64 0), (.int .u64 0), (.int .u64 0), (.int .u64 0), (.int .u64 0), (.int .u64 0), (.int .u64 0), (.int .u64 0), (.int .i64 0)] .exact g15 n170 fun l20 g16 n20 =>
kAgg v171 fun cg17 =>
cg17.length = 11 ∧ kStN g16 l20 0 cg17 fun g17 =>
kUn .not v172 fun v174 =>
kSplit v174 (
aRet K (.bool false) g17 n20) (
kLd g17 l20 (0 + 0) fun v177 =>
kBin .int .gtr v177 (.int .i64 3) fun v178 =>
kSplit v178 (
aRet K (.bool false) g17 n20) (
lfp (bellowslaw05_ArrayOnce_l10 C K I_l1) (puts t [(153, (ptr l153 (o153 + 1))), (154, v154), (155, v155), (17, v155), (157, (t 9)), (158, v155), (159, v159), (156, v159), (160, v160), (161, v161), (18, v160), (19, v161), (162, v160), (163, (.bool false)), (164, v161), (165, v165), (166, v165), (168, (t 9)), (169, v161), (170, v170), (167, v170), (171, v171), (172, v172), (20, (ptr l20 0)), (21, v172), (173, v172), (174, v174), (175, (.bool false)), (176, (ptr l20 (0 + 0))), (177, v177), (178, v178), (179, v178), (22, (.int .i64 0))]) g17 n20))))

def bellowslaw05_ArrayOnce_l3 (C : CT) (K : Cont) (I_l1 : ECont) (I_l3 : ECont) (t : Env) (g : G) (n : Nat) : Prop :=
kLen (t 13) fun v94 =>
kBin .int .lss (t 14) v94 fun v95 =>
kSplit v95 (
lfp (bellowslaw05_ArrayOnce_l4 C K I_l1 I_l3) (puts t [(92, (t 14)), (93, (t 13)), (94, v94), (95, v95), (15, (.int .i64 0)), (16, (.int .i64 0))]) g n) (
bellowslaw05_ArrayOnce_j8 C K I_l1 (puts t [(92, (t 14)), (93, (t 13)), (94, v94), (95, v95)]) g n)

def bellowslaw05_ArrayOnce_j2 (C : CT) (K : Cont) (I_l1 : ECont) (t : Env) (g : G) (n : Nat) : Prop :=
C array_Array_Slots_id [(t 9)] g n fun v91 g8 n91 =>
lfp (bellowslaw05_ArrayOnce_l3 C K I_l1) (puts t [(90, (t 9)), (91, v91), (13, v91), (14, (.int .i64 0))]) g8 n91

def bellowslaw05_ArrayOnce_l1 (C : CT) (K : Cont) (I_l1 : ECont) (t : Env) (g : G) (n : Nat) : Prop :=
kLen (t 2) fun v58 =>
kBin .int .lss (t 11) v58 fun v59 =>
kSplit v59 (
kIndexAddr (t 2) (t 11) 11 fun v64 =>
kPtr v64 fun l65 o65 =>
kLdN g l65 o65 11 fun c65 =>
kNew [(.int .i64 0), (.int .i64 0), (.int .i64 0), (.int .u64 0), (.int .u64 0), (.int .u64 0), (.int .u64 0), (.int .u64 0), (.int .u64 0), (.int .u64 0), (.int .u64 0)] .exact g n fun l12 g5 n12 =>
kAgg (.agg c65.toArray) fun cg6 =>
cg6.length = 11 ∧ kStN g5 l12 0 cg6 fun g6 =>
kLd g6 l12 (0 + 0) fun v67 =>
kBin .int .eql v67 (.int .i64 0) fun v69 =>
kSplit v69 (
kLd g6 l12 (0 + 1) fun v72 =>
kLd g6 l12 (0 + 2) fun v74 =>
kLdN g6 l12 (0 + 3) 8 fun c76 =>
C array_Array_Set_id [(t 9), v72, v74, (.agg c76.toArray)] g6 n12 fun v77 g7 n77 =>
bellowslaw05_ArrayOnce_j2 C K I_l1 (puts t [(56, (t 11)), (57, (t 2)), (58, v58), (59, v59), (62, (t 2)), (63, (t 11)), (64, v64), (65, (.agg c65.toArray)), (12, (ptr l12 0)), (66, (ptr l12 (0 + 0))), (67, v67), (69, v69), (68, v69), (70, (t 9)), (71, (ptr l12 (0 + 1))), (72, v72), (73, (ptr l12 (0 + 2))), (74, v74), (75, (ptr l12 (0 + 3))), (76, (.agg c76.toArray)), (77, v77)]) g7 n77) (
kBin .int .eql v67 (.int .i64 1) fun v79 =>
kSplit v79 (
kLd g6 l12 (0 + 1) fun v82 =>
C array_Array_Touch_id [(t 9), v82] g6 n12 fun v83 g20 n83 =>
bellowslaw05_ArrayOnce_j2 C K I_l1 (puts t [(56, (t 11)), (57, (t 2)), (58, v58), (59, v59), (62, (t 2)), (63, (t 11)), (64, v64), (65, (.agg c65.toArray)), (12, (ptr l12 0)), (66, (ptr l12 (0 + 0))), (67, v67), (69, v69), (68, v69), (79, v79), (78, v79), (80, (t 9)), (81, (ptr l12 (0 + 1))), (82, v82), (83, v83)]) g20 n83) (
kBin .int .eql v67 (.int .i64 2) fun v85 =>
kSplit v85 (
kLd g6 l12 (0 + 1) fun v88 =>
C array_Array_Drop_id [(t 9), v88] g6 n12 fun v89 g21 n89 =>
bellowslaw05_ArrayOnce_j2 C K I_l1 (puts t [(56, (t 11)), (57, (t 2)), (58, v58), (59, v59), (62, (t 2)), (63, (t 11)), (64, v64), (65, (.agg c65.toArray)), (12, (ptr l12 0)), (66, (ptr l12 (0 + 0))), (67, v67), (69, v69), (68, v69), (79, v79), (78, v79), (85, v85), (84, v85), (86, (t 9)), (87, (ptr l12 (0 + 1))), (88, v88), (89, v89)]) g21 n89) (
bellowslaw05_ArrayOnce_j2 C K I_l1 (puts t [(56, (t 11)), (57, (t 2)), (58, v58), (59, v59), (62, (t 2)), (63, (t 11)), (64, v64), (65, (.agg c65.toArray)), (12, (ptr l12 0)), (66, (ptr l12 (0 + 0))), (67, v67), (69, v69), (68, v69), (79, v79), (78, v79), (85, v85), (84, v85)]) g6 n12)))) (
C bellowslaw05_wakes_id [] g n fun v215 g22 n215 =>
aRet K v215 g22 n215)

def bellowslaw05_ArrayOnce (C : CT) (a0 a1 a2 : Value) (g : G) (n : Nat) (K : Cont) : Prop :=
kBin .int .rem a0 (.int .u8 4) fun v24 =>
kBin .int .shl (.int .i64 1) v24 fun v25 =>
kConv .i64 a1 fun v27 =>
kBin .int .rem v27 (.int .i64 8) fun v28 =>
kBin .int .add (.int .i64 1) v28 fun v29 =>
C array_New_id [v25, v29] g n fun v33 g1 n33 =>
kExtract v33 0 fun v34 =>
kExtract v33 1 fun v35 =>
kBin .int .neq v35 (.int .i64 0) fun v37 =>
kSplit v37 (
kBin .int .eql v35 (.int .i64 0) fun v48 =>
kSplit v48 (
kBin .ptr .neq v34 (.pointer none) fun v51 =>
kSplit v51 (
C bellowslaw05_wakes_id [] g1 n33 fun v54 g2 n54 =>
aRet K v54 g2 n54) (
aRet K (.bool false) g1 n33)) (
aRet K (.bool false) g1 n33)) (
kBin .ptr .eql v34 (.pointer none) fun v40 =>
kSplit v40 (
kBin .int .eql v35 (.int .i64 0) fun v48 =>
kSplit v48 (
kBin .ptr .neq v34 (.pointer none) fun v51 =>
kSplit v51 (
C bellowslaw05_wakes_id [] g1 n33 fun v54 g3 n54 =>
aRet K v54 g3 n54) (
aRet K (.bool false) g1 n33)) (
aRet K (.bool false) g1 n33)) (
kLen a2 fun v44 =>
kBin .int .gtr v44 (.int .i64 200) fun v45 =>
kSplit v45 (
kBin .int .eql v35 (.int .i64 0) fun v48 =>
kSplit v48 (
kBin .ptr .neq v34 (.pointer none) fun v51 =>
kSplit v51 (
C bellowslaw05_wakes_id [] g1 n33 fun v54 g4 n54 =>
aRet K v54 g4 n54) (
aRet K (.bool false) g1 n33)) (
aRet K (.bool false) g1 n33)) (
lfp (bellowslaw05_ArrayOnce_l1 C K) (puts (args0 [a0, a1, a2]) [(6, (.bool false)), (23, a0), (24, v24), (25, v25), (26, a1), (27, v27), (28, v28), (29, v29), (7, v25), (8, v29), (31, v25), (32, v29), (33, v33), (30, v33), (34, v34), (35, v35), (9, v34), (10, v35), (36, v35), (37, v37), (38, (.bool false)), (39, v34), (40, v40), (41, v40), (42, (.bool false)), (43, a2), (44, v44), (45, v45), (46, v45), (11, (.int .i64 0))]) g1 n33)))

theorem bellowslaw05_ArrayOnce_eq (C : CT) (a0 a1 a2 : Value) (g : G) (n : Nat) (K : Cont) : bellowslaw05_ArrayOnce C a0 a1 a2 g n K = abody Try.prog C bellowslaw05_ArrayOnce_id [a0, a1, a2] g n K := by kernel_rfl

/- bellows/bellowslaw05.ArrayLast -/
def bellowslaw05_ArrayLast_j5 (C : CT) (K : Cont) (I_l3 : ECont) (I_l4 : ECont) (t : Env) (g : G) (n : Nat) : Prop :=
kBin .int .add (t 13) (.int .i64 1) fun v81 =>
I_l4 (puts t [(80, (t 13)), (81, v81), (13, v81)]) g n

def bellowslaw05_ArrayLast_j7 (C : CT) (K : Cont) (I_l3 : ECont) (t : Env) (g : G) (n : Nat) : Prop :=
kBin .int .add (t 10) (.int .i64 1) fun v65 =>
I_l3 (puts t [(64, (t 10)), (65, v65), (10, v65)]) g n

def bellowslaw05_ArrayLast_j6 (C : CT) (K : Cont) (I_l3 : ECont) (t : Env) (g : G) (n : Nat) : Prop :=
kFill (reps 1 [(.int .i64 0)]) [(0, none, (t 11))] fun c97 =>
kNew c97 .exact g n fun l97 g11 n97 =>
kAppend (t 12) (.slice (some ⟨l97, 0, none⟩) 1 1) 1 8 g11 n97 fun v98 g12 n98 =>
bellowslaw05_ArrayLast_j7 C K I_l3 (puts t [(95, (t 12)), (96, (t 11)), (97, (.slice (some ⟨l97, 0, none⟩) 1 1)), (98, v98), (8, v98)]) g12 n98

def bellowslaw05_ArrayLast_l4 (C : CT) (K : Cont) (I_l3 : ECont) (I_l4 : ECont) (t : Env) (g : G) (n : Nat) : Prop :=
kLen (t 8) fun v78 =>
kBin .int .lss (t 13) v78 fun v79 =>
kSplit v79 (
kIndexAddr (t 8) (t 13) 1 fun v84 =>
kPtr v84 fun l85 o85 =>
kLd g l85 o85 fun v85 =>
kBin .int .neq v85 (t 11) fun v87 =>
kSplit v87 (
kIndexAddr (t 8) (t 13) 1 fun v91 =>
kPtr v91 fun l92 o92 =>
kLd g l92 o92 fun v92 =>
kFill (reps 1 [(.int .i64 0)]) [(0, none, v92)] fun c93 =>
kNew c93 .exact g n fun l93 g9 n93 =>
kAppend (t 12) (.slice (some ⟨l93, 0, none⟩) 1 1) 1 8 g9 n93 fun v94 g10 n94 =>
bellowslaw05_ArrayLast_j5 C K I_l3 I_l4 (puts t [(76, (t 13)), (77, (t 8)), (78, v78), (79, v79), (82, (t 8)), (83, (t 13)), (84, v84), (85, v85), (86, (t 11)), (87, v87), (88, (t 12)), (89, (t 8)), (90, (t 13)), (91, v91), (92, v92), (93, (.slice (some ⟨l93, 0, none⟩) 1 1)), (94, v94), (12, v94)]) g10 n94) (
bellowslaw05_ArrayLast_j5 C K I_l3 I_l4 (puts t [(76, (t 13)), (77, (t 8)), (78, v78), (79, v79), (82, (t 8)), (83, (t 13)), (84, v84), (85, v85), (86, (t 11)), (87, v87)]) g n)) (
bellowslaw05_ArrayLast_j6 C K I_l3 (puts t [(76, (t 13)), (77, (t 8)), (78, v78), (79, v79)]) g n)

def bellowslaw05_ArrayLast_l9 (C : CT) (K : Cont) (I_l9 : ECont) (t : Env) (g : G) (n : Nat) : Prop :=
kBin .int .lss (t 14) (t 5) fun v101 =>
kSplit v101 (
kBin .int .add (.int .i64 50) (t 14) fun v107 =>
C array_Array_Room_id [(t 6), v107] g n fun v108 g13 n108 =>
kExtract v108 0 fun v109 =>
kExtract v108 1 fun v110 =>
kSplit v109 (
aRet K (.bool false) g13 n108) (
kIndexAddr (t 8) (t 14) 1 fun v116 =>
kPtr v116 fun l117 o117 =>
kLd g13 l117 o117 fun v117 =>
kBin .int .neq v110 v117 fun v118 =>
kSplit v118 (
aRet K (.bool false) g13 n108) (
C array_Array_Drop_id [(t 6), v110] g13 n108 fun v123 g14 n123 =>
kUn .not v123 fun v124 =>
kSplit v124 (
aRet K (.bool false) g14 n123) (
kBin .int .add (.int .i64 50) (t 14) fun v129 =>
kFill [(.int .u64 0), (.int .u64 0), (.int .u64 0), (.int .u64 0), (.int .u64 0), (.int .u64 0), (.int .u64 0), (.int .u64 0)] [] fun c130 =>
C array_Array_Set_id [(t 6), v129, (.int .i64 2), (.agg c130.toArray)] g14 n123 fun v131 g15 n131 =>
kBin .int .neq v131 (.int .i64 0) fun v132 =>
kSplit v132 (
aRet K (.bool false) g15 n131) (
kBin .int .add (t 14) (.int .i64 1) fun v103 =>
I_l9 (puts t [(99, (t 14)), (100, (t 5)), (101, v101), (105, (t 6)), (106, (t 14)), (107, v107), (108, v108), (104, v108), (109, v109), (110, v110), (15, v109), (16, v110), (111, v109), (112, (.bool false)), (113, v110), (114, (t 8)), (115, (t 14)), (116, v116), (117, v117), (118, v118), (119, v118), (120, (.bool false)), (121, (t 6)), (122, v110), (123, v123), (124, v124), (125, v124), (126, (.bool false)), (127, (t 6)), (128, (t 14)), (129, v129), (130, (.agg c130.toArray)), (131, v131), (132, v132), (133, v132), (102, (t 14)), (103, v103), (14, v103)]) g15 n131))))) (
C bellowslaw05_wakes_id [] g n fun v134 g16 n134 =>
aRet K v134 g16 n134)

def bellowslaw05_ArrayLast_j8 (C : CT) (K : Cont) (t : Env) (g : G) (n : Nat) : Prop :=
lfp (bellowslaw05_ArrayLast_l9 C K) (puts t [(14, (.int .i64 0))]) g n

def bellowslaw05_ArrayLast_l3 (C : CT) (K : Cont) (I_l3 : ECont) (t : Env) (g : G) (n : Nat) : Prop :=
kLen (t 1) fun v62 =>
kBin .int .lss (t 10) v62 fun v63 =>
kSplit v63 (
kIndexAddr (t 1) (t 10) 1 fun v68 =>
kPtr v68 fun l69 o69 =>
kLd g l69 o69 fun v69 =>
kConv .i64 v69 fun v70 =>
kBin .int .rem v70 (t 5) fun v72 =>
C array_Array_Touch_id [(t 6), v72] g n fun v75 g8 n75 =>
lfp (bellowslaw05_ArrayLast_l4 C K I_l3) (puts t [(60, (t 10)), (61, (t 1)), (62, v62), (63, v63), (66, (t 1)), (67, (t 10)), (68, v68), (69, v69), (70, v70), (71, (t 5)), (72, v72), (11, v72), (73, (t 6)), (74, v72), (75, v75), (12, (.slice none 0 0)), (13, (.int .i64 0))]) g8 n75) (
bellowslaw05_ArrayLast_j8 C K (puts t [(60, (t 10)), (61, (t 1)), (62, v62), (63, v63)]) g n)

def bellowslaw05_ArrayLast_j2 (C : CT) (K : Cont) (t : Env) (g : G) (n : Nat) : Prop :=
lfp (bellowslaw05_ArrayLast_l3 C K) (puts t [(10, (.int .i64 0))]) g n

def bellowslaw05_ArrayLast_l1 (C : CT) (K : Cont) (I_l1 : ECont) (t : Env) (g : G) (n : Nat) : Prop :=
kBin .int .lss (t 9) (t 5) fun v48 =>
kSplit v48 (
kFill [(.int .u64 0), (.int .u64 0), (.int .u64 0), (.int .u64 0), (.int .u64 0), (.int .u64 0), (.int .u64 0), (.int .u64 0)] [] fun c53 =>
C array_Array_Set_id [(t 6), (t 9), (.int .i64 1), (.agg c53.toArray)] g n fun v54 g5 n54 =>
kBin .int .neq v54 (.int .i64 0) fun v55 =>
kSplit v55 (
aRet K (.bool false) g5 n54) (
kFill (reps 1 [(.int .i64 0)]) [(0, none, (t 9))] fun c58 =>
kNew c58 .exact g5 n54 fun l58 g6 n58 =>
kAppend (t 8) (.slice (some ⟨l58, 0, none⟩) 1 1) 1 8 g6 n58 fun v59 g7 n59 =>
kBin .int .add (t 9) (.int .i64 1) fun v50 =>
I_l1 (puts t [(46, (t 9)), (47, (t 5)), (48, v48), (51, (t 6)), (52, (t 9)), (53, (.agg c53.toArray)), (54, v54), (55, v55), (56, (t 8)), (57, (t 9)), (58, (.slice (some ⟨l58, 0, none⟩) 1 1)), (59, v59), (8, v59), (49, (t 9)), (50, v50), (9, v50)]) g7 n59)) (
bellowslaw05_ArrayLast_j2 C K (puts t [(46, (t 9)), (47, (t 5)), (48, v48)]) g n)

def bellowslaw05_ArrayLast (C : CT) (a0 a1 : Value) (g : G) (n : Nat) (K : Cont) : Prop :=
kConv .i64 a0 fun v18 =>
kBin .int .rem v18 (.int .i64 7) fun v19 =>
kBin .int .add (.int .i64 2) v19 fun v20 =>
C array_New_id [(.int .i64 1), v20] g n fun v23 g1 n23 =>
kExtract v23 0 fun v24 =>
kExtract v23 1 fun v25 =>
kBin .int .neq v25 (.int .i64 0) fun v27 =>
kSplit v27 (
kBin .int .eql v25 (.int .i64 0) fun v38 =>
kSplit v38 (
kBin .ptr .neq v24 (.pointer none) fun v41 =>
kSplit v41 (
C bellowslaw05_wakes_id [] g1 n23 fun v44 g2 n44 =>
aRet K v44 g2 n44) (
aRet K (.bool false) g1 n23)) (
aRet K (.bool false) g1 n23)) (
kBin .ptr .eql v24 (.pointer none) fun v30 =>
kSplit v30 (
kBin .int .eql v25 (.int .i64 0) fun v38 =>
kSplit v38 (
kBin .ptr .neq v24 (.pointer none) fun v41 =>
kSplit v41 (
C bellowslaw05_wakes_id [] g1 n23 fun v44 g3 n44 =>
aRet K v44 g3 n44) (
aRet K (.bool false) g1 n23)) (
aRet K (.bool false) g1 n23)) (
kLen a1 fun v34 =>
kBin .int .gtr v34 (.int .i64 100) fun v35 =>
kSplit v35 (
kBin .int .eql v25 (.int .i64 0) fun v38 =>
kSplit v38 (
kBin .ptr .neq v24 (.pointer none) fun v41 =>
kSplit v41 (
C bellowslaw05_wakes_id [] g1 n23 fun v44 g4 n44 =>
aRet K v44 g4 n44) (
aRet K (.bool false) g1 n23)) (
aRet K (.bool false) g1 n23)) (
lfp (bellowslaw05_ArrayLast_l1 C K) (puts (args0 [a0, a1]) [(4, (.bool false)), (17, a0), (18, v18), (19, v19), (20, v20), (5, v20), (22, v20), (23, v23), (21, v23), (24, v24), (25, v25), (6, v24), (7, v25), (26, v25), (27, v27), (28, (.bool false)), (29, v24), (30, v30), (31, v30), (32, (.bool false)), (33, a1), (34, v34), (35, v35), (36, v35), (8, (.slice none 0 0)), (9, (.int .i64 0))]) g1 n23)))

theorem bellowslaw05_ArrayLast_eq (C : CT) (a0 a1 : Value) (g : G) (n : Nat) (K : Cont) : bellowslaw05_ArrayLast C a0 a1 g n K = abody Try.prog C bellowslaw05_ArrayLast_id [a0, a1] g n K := by kernel_rfl

/- bellows/bellowslaw17.wakes -/
def bellowslaw17_wakes (C : CT) (g : G) (n : Nat) (K : Cont) : Prop :=
kFill [(.int .i64 0), (.int .i64 0), (.int .i64 0), (.int .i64 0), (.int .u64 0)] [(0, none, (.int .i64 8)), (1, none, (.int .i64 1)), (4, none, (.int .u64 5))] fun c3 =>
kFill [(.int .i64 0), (.int .i64 0), (.int .i64 0), (.int .i64 0), (.int .u64 0)] [(0, none, (.int .i64 11))] fun c4 =>
kFill [(.int .i64 0), (.int .i64 0), (.int .i64 0), (.int .i64 0), (.int .u64 0)] [(0, none, (.int .i64 3)), (2, none, (.int .i64 2)), (3, none, (.int .i64 3)), (4, none, (.int .u64 7))] fun c5 =>
kFill (reps 3 [(.int .i64 0), (.int .i64 0), (.int .i64 0), (.int .i64 0), (.int .u64 0)]) [(0, (some 5), (.agg c3.toArray)), (5, (some 5), (.agg c4.toArray)), (10, (some 5), (.agg c5.toArray))] fun c6 =>
kNew c6 .exact g n fun l6 g1 n6 =>
C trace_Cut_id [(.slice (some ⟨l6, 0, none⟩) 3 3)] g1 n6 fun v8 g2 n8 =>
kLen v8 fun v10 =>
kBin .int .eql v10 (.int .i64 2) fun v11 =>
kSplit v11 (
kIndexAddr v8 (.int .i64 0) 1 fun v14 =>
kPtr v14 fun l15 o15 =>
kLd g2 l15 o15 fun v15 =>
kLen v15 fun v16 =>
kBin .int .eql v16 (.int .i64 1) fun v17 =>
kSplit v17 (
kIndexAddr v8 (.int .i64 1) 1 fun v21 =>
kPtr v21 fun l22 o22 =>
kLd g2 l22 o22 fun v22 =>
kLen v22 fun v23 =>
kBin .int .eql v23 (.int .i64 1) fun v24 =>
kSplit v24 (
C trace_Tells_id [(.slice (some ⟨l6, 0, none⟩) 3 3), (.int .i64 1)] g2 n8 fun v28 g3 n28 =>
kFill (reps 1 [(.int .u64 0)]) [(0, none, (.int .u64 5))] fun c29 =>
kNew c29 .exact g3 n28 fun l29 g4 n29 =>
C bellowskeep_Words_id [v28, (.slice (some ⟨l29, 0, none⟩) 1 1)] g4 n29 fun v30 g5 n30 =>
kSplit v30 (
C trace_Stores_id [(.slice (some ⟨l6, 0, none⟩) 3 3), (.int .i64 2), (.int .i64 3)] g5 n30 fun v34 g6 n34 =>
kFill (reps 1 [(.int .u64 0)]) [(0, none, (.int .u64 7))] fun c35 =>
kNew c35 .exact g6 n34 fun l35 g7 n35 =>
C bellowskeep_Words_id [v34, (.slice (some ⟨l35, 0, none⟩) 1 1)] g7 n35 fun v36 g8 n36 =>
kSplit v36 (
C trace_Of_id [(.slice (some ⟨l6, 0, none⟩) 3 3), (.int .i64 0), (.int .i64 (-1))] g8 n36 fun v40 g9 n40 =>
kLen v40 fun v41 =>
kBin .int .eql v41 (.int .i64 3) fun v42 =>
kSplit v42 (
C trace_Same_id [(.slice (some ⟨l6, 0, none⟩) 3 3), (.slice (some ⟨l6, 0, none⟩) 3 3)] g9 n40 fun v47 g10 n47 =>
aRet K v47 g10 n47) (
aRet K (.bool false) g9 n40)) (
aRet K (.bool false) g8 n36)) (
aRet K (.bool false) g5 n30)) (
aRet K (.bool false) g2 n8)) (
aRet K (.bool false) g2 n8)) (
aRet K (.bool false) g2 n8)

theorem bellowslaw17_wakes_eq (C : CT) (g : G) (n : Nat) (K : Cont) : bellowslaw17_wakes C g n K = abody Try.prog C bellowslaw17_wakes_id [] g n K := by kernel_rfl

/- bellows/trace.Cut -/
def trace_Cut_l1 (C : CT) (K : Cont) (I_l1 : ECont) (t : Env) (g : G) (n : Nat) : Prop :=
kBin .int .lss (t 10) (t 9) fun v11 =>
kSplit v11 (
kIndexAddr (t 8) (t 10) 5 fun v12 =>
kPtr v12 fun l13 o13 =>
kLdN g l13 o13 5 fun c13 =>
kNew [(.int .i64 0), (.int .i64 0), (.int .i64 0), (.int .i64 0), (.int .u64 0)] .exact g n fun l5 g2 n5 =>
kAgg (.agg c13.toArray) fun cg3 =>
cg3.length = 5 ∧ kStN g2 l5 0 cg3 fun g3 =>
kLd g3 l5 (0 + 0) fun v15 =>
kBin .int .eql v15 (.int .i64 11) fun v16 =>
kSplit v16 (
kFill (reps 1 [(.slice none 0 0)]) [(0, none, (.slice none 0 0))] fun c18 =>
kNew c18 .exact g3 n5 fun l18 g4 n18 =>
kAppend (t 3) (.slice (some ⟨l18, 0, none⟩) 1 1) 1 24 g4 n18 fun v19 g5 n19 =>
kBin .int .add (t 10) (.int .i64 1) fun v33 =>
I_l1 (puts t [(11, v11), (12, v12), (13, (.agg c13.toArray)), (5, (ptr l5 0)), (14, (ptr l5 (0 + 0))), (15, v15), (16, v16), (17, (t 3)), (18, (.slice (some ⟨l18, 0, none⟩) 1 1)), (19, v19), (3, v19), (33, v33), (10, v33)]) g5 n19) (
kLen (t 3) fun v21 =>
kBin .int .sub v21 (.int .i64 1) fun v22 =>
kIndexAddr (t 3) v22 1 fun v27 =>
kPtr v27 fun l28 o28 =>
kLd g3 l28 o28 fun v28 =>
kLdN g3 l5 0 5 fun c29 =>
kFill (reps 1 [(.int .i64 0), (.int .i64 0), (.int .i64 0), (.int .i64 0), (.int .u64 0)]) [(0, (some 5), (.agg c29.toArray))] fun c30 =>
kNew c30 .exact g3 n5 fun l30 g6 n30 =>
(kPtr v27 fun l _ => g6 l = g3 l) ∧ kAppend v28 (.slice (some ⟨l30, 0, none⟩) 1 1) 5 40 g6 n30 fun v31 g7 n31 =>
kIndexAddr (t 3) v22 1 fun v32 =>
kPtr v32 fun lg8 og8 =>
kSt g7 lg8 og8 v31 fun g8 =>
kBin .int .add (t 10) (.int .i64 1) fun v33 =>
I_l1 (puts t [(11, v11), (12, v12), (13, (.agg c13.toArray)), (5, (ptr l5 0)), (14, (ptr l5 (0 + 0))), (15, v15), (16, v16), (20, (t 3)), (21, v21), (22, v22), (6, v22), (23, (t 3)), (24, v22), (25, (t 3)), (26, v22), (27, v27), (28, v28), (29, (.agg c29.toArray)), (30, (.slice (some ⟨l30, 0, none⟩) 1 1)), (31, v31), (32, v32), (33, v33), (10, v33)]) g8 n31)) (
aRet K (t 3) g n)

def trace_Cut (C : CT) (a0 : Value) (g : G) (n : Nat) (K : Cont) : Prop :=
kFill (reps 1 [(.slice none 0 0)]) [(0, none, (.slice none 0 0))] fun c7 =>
kNew c7 .exact g n fun l7 g1 n7 =>
kLen a0 fun v9 =>
lfp (trace_Cut_l1 C K) (puts (args0 [a0]) [(2, (.slice none 0 0)), (7, (.slice (some ⟨l7, 0, none⟩) 1 1)), (3, (.slice (some ⟨l7, 0, none⟩) 1 1)), (8, a0), (9, v9), (10, (.int .i64 0))]) g1 n7

theorem trace_Cut_eq (C : CT) (a0 : Value) (g : G) (n : Nat) (K : Cont) : trace_Cut C a0 g n K = abody Try.prog C trace_Cut_id [a0] g n K := by kernel_rfl

/- bellows/trace.Of -/
def trace_Of (C : CT) (a0 a1 a2 : Value) (g : G) (n : Nat) (K : Cont) : Prop :=
isCell a1 = true ∧ kNew [a1] .exact g n fun l4 g1 n4 =>
isCell a2 = true ∧ kNew [a2] .exact g1 n4 fun l5 g2 n5 =>
C trace_chosen_api_Event_api_Event_id [a0, (.func (.func trace_Of_1_id) #[] #[(ptr l4 0), (ptr l5 0)]), (.func (.func trace_itself_id) #[] #[])] g2 n5 fun v9 g3 n9 =>
aRet K v9 g3 n9

theorem trace_Of_eq (C : CT) (a0 a1 a2 : Value) (g : G) (n : Nat) (K : Cont) : trace_Of C a0 a1 a2 g n K = abody Try.prog C trace_Of_id [a0, a1, a2] g n K := by kernel_rfl

/- bellows/bellowskeep.Words -/
def bellowskeep_Words_l1 (C : CT) (K : Cont) (I_l1 : ECont) (t : Env) (g : G) (n : Nat) : Prop :=
kLen (t 0) fun v13 =>
kBin .int .lss (t 5) v13 fun v14 =>
kSplit v14 (
kIndexAddr (t 0) (t 5) 1 fun v19 =>
kPtr v19 fun l20 o20 =>
kLd g l20 o20 fun v20 =>
kIndexAddr (t 1) (t 5) 1 fun v23 =>
kPtr v23 fun l24 o24 =>
kLd g l24 o24 fun v24 =>
kBin .int .neq v20 v24 fun v25 =>
kSplit v25 (
aRet K (.bool false) g n) (
kBin .int .add (t 5) (.int .i64 1) fun v16 =>
I_l1 (puts t [(11, (t 5)), (12, (t 0)), (13, v13), (14, v14), (17, (t 0)), (18, (t 5)), (19, v19), (20, v20), (21, (t 1)), (22, (t 5)), (23, v23), (24, v24), (25, v25), (15, (t 5)), (16, v16), (5, v16)]) g n)) (
aRet K (.bool true) g n)

def bellowskeep_Words (C : CT) (a0 a1 : Value) (g : G) (n : Nat) (K : Cont) : Prop :=
kLen a0 fun v7 =>
kLen a1 fun v9 =>
kBin .int .neq v7 v9 fun v10 =>
kSplit v10 (
aRet K (.bool false) g n) (
lfp (bellowskeep_Words_l1 C K) (puts (args0 [a0, a1]) [(4, (.bool false)), (6, a0), (7, v7), (8, a1), (9, v9), (10, v10), (5, (.int .i64 0))]) g n)

theorem bellowskeep_Words_eq (C : CT) (a0 a1 : Value) (g : G) (n : Nat) (K : Cont) : bellowskeep_Words C a0 a1 g n K = abody Try.prog C bellowskeep_Words_id [a0, a1] g n K := by kernel_rfl

/- bellows/trace.Tells -/
def trace_Tells (C : CT) (a0 a1 : Value) (g : G) (n : Nat) (K : Cont) : Prop :=
isCell a1 = true ∧ kNew [a1] .exact g n fun l3 g1 n3 =>
C trace_chosen_api_Event_uint64_id [a0, (.func (.func trace_Tells_1_id) #[] #[(ptr l3 0)]), (.func (.func trace_val_id) #[] #[])] g1 n3 fun v7 g2 n7 =>
aRet K v7 g2 n7

theorem trace_Tells_eq (C : CT) (a0 a1 : Value) (g : G) (n : Nat) (K : Cont) : trace_Tells C a0 a1 g n K = abody Try.prog C trace_Tells_id [a0, a1] g n K := by kernel_rfl

/- bellows/trace.Same -/
def trace_Same (C : CT) (a0 a1 : Value) (g : G) (n : Nat) (K : Cont) : Prop :=
C slices_Equal_api_Event_api_Event_id [a0, a1] g n fun v7 g1 n7 =>
aRet K v7 g1 n7

theorem trace_Same_eq (C : CT) (a0 a1 : Value) (g : G) (n : Nat) (K : Cont) : trace_Same C a0 a1 g n K = abody Try.prog C trace_Same_id [a0, a1] g n K := by kernel_rfl

/- bellows/bellowslaw17.told -/
def bellowslaw17_told_j2 (C : CT) (K : Cont) (I_l1 : ECont) (t : Env) (g : G) (n : Nat) : Prop :=
kBin .int .add (t 6) (.int .i64 1) fun v12 =>
I_l1 (puts t [(11, (t 6)), (12, v12), (6, v12)]) g n

def bellowslaw17_told_l1 (C : CT) (K : Cont) (I_l1 : ECont) (t : Env) (g : G) (n : Nat) : Prop :=
kLen (t 0) fun v9 =>
kBin .int .lss (t 6) v9 fun v10 =>
kSplit v10 (
kBin .int .eql (t 1) (.int .i64 (-1)) fun v14 =>
kSplit v14 (
kIndexAddr (t 0) (t 6) 5 fun v18 =>
kPtr v18 fun l19 o19 =>
kLd g l19 (o19 + 0) fun v20 =>
kBin .int .eql v20 (.int .i64 8) fun v21 =>
kSplit v21 (
kIndexAddr (t 0) (t 6) 5 fun v26 =>
kPtr v26 fun l27 o27 =>
kLd g l27 (o27 + 1) fun v28 =>
kBin .int .neq v28 (.int .i64 (-1)) fun v29 =>
kSplit v29 (
kBin .int .add (t 5) (.int .i64 1) fun v32 =>
bellowslaw17_told_j2 C K I_l1 (puts t [(7, (t 6)), (8, (t 0)), (9, v9), (10, v10), (13, (t 1)), (14, v14), (15, (.bool true)), (16, (t 0)), (17, (t 6)), (18, v18), (19, (ptr l19 (o19 + 0))), (20, v20), (21, v21), (22, v21), (23, (.bool true)), (24, (t 0)), (25, (t 6)), (26, v26), (27, (ptr l27 (o27 + 1))), (28, v28), (29, v29), (30, v29), (31, (t 5)), (32, v32), (5, v32)]) g n) (
bellowslaw17_told_j2 C K I_l1 (puts t [(7, (t 6)), (8, (t 0)), (9, v9), (10, v10), (13, (t 1)), (14, v14), (15, (.bool true)), (16, (t 0)), (17, (t 6)), (18, v18), (19, (ptr l19 (o19 + 0))), (20, v20), (21, v21), (22, v21), (23, (.bool true)), (24, (t 0)), (25, (t 6)), (26, v26), (27, (ptr l27 (o27 + 1))), (28, v28), (29, v29), (30, v29)]) g n)) (
bellowslaw17_told_j2 C K I_l1 (puts t [(7, (t 6)), (8, (t 0)), (9, v9), (10, v10), (13, (t 1)), (14, v14), (15, (.bool true)), (16, (t 0)), (17, (t 6)), (18, v18), (19, (ptr l19 (o19 + 0))), (20, v20), (21, v21), (22, v21), (23, (.bool false)), (24, undef), (25, undef), (26, undef), (27, undef), (28, undef), (29, undef), (30, (.bool false))]) g n)) (
bellowslaw17_told_j2 C K I_l1 (puts t [(7, (t 6)), (8, (t 0)), (9, v9), (10, v10), (13, (t 1)), (14, v14), (15, (.bool false)), (16, undef), (17, undef), (18, undef), (19, undef), (20, undef), (21, undef), (22, (.bool false)), (23, (.bool false)), (24, undef), (25, undef), (26, undef), (27, undef), (28, undef), (29, undef), (30, (.bool false))]) g n)) (
aRet K (t 5) g n)

def bellowslaw17_told (C : CT) (a0 a1 : Value) (g : G) (n : Nat) (K : Cont) : Prop :=
lfp (bellowslaw17_told_l1 C K) (puts (args0 [a0, a1]) [(4, (.int .i64 0)), (5, (.int .i64 0)), (6, (.int .i64 0))]) g n

theorem bellowslaw17_told_eq (C : CT) (a0 a1 : Value) (g : G) (n : Nat) (K : Cont) : bellowslaw17_told C a0 a1 g n K = abody Try.prog C bellowslaw17_told_id [a0, a1] g n K := by kernel_rfl

/- bellows/bellowslaw19.wakes -/
def bellowslaw19_wakes (C : CT) (g : G) (n : Nat) (K : Cont) : Prop :=
C bellowslaw19_store_id [(.int .u64 1)] g n fun v3 g1 n3 =>
kFill [(.int .i64 0), (.int .i64 0), (.int .i64 0), (.int .i64 0), (.int .u64 0)] [(0, none, (.int .i64 5)), (2, none, (.int .i64 3))] fun c4 =>
C bellowslaw19_store_id [(.int .u64 2)] g1 n3 fun v5 g2 n5 =>
kFill (reps 3 [(.int .i64 0), (.int .i64 0), (.int .i64 0), (.int .i64 0), (.int .u64 0)]) [(0, (some 5), v3), (5, (some 5), (.agg c4.toArray)), (10, (some 5), v5)] fun c6 =>
kNew c6 .exact g2 n5 fun l6 g3 n6 =>
kFill [(.int .u64 0), (.int .u64 0), (.int .u64 0), (.int .u64 0), (.int .u64 0), (.int .u64 0), (.int .u64 0), (.int .u64 0)] [] fun c7 =>
C persist_History_id [(.agg c7.toArray), (.slice (some ⟨l6, 0, none⟩) 3 3), (.int .i64 3)] g3 n6 fun v9 g4 n9 =>
kLen v9 fun v11 =>
kBin .int .eql v11 (.int .i64 3) fun v12 =>
kSplit v12 (
kIndexAddr v9 (.int .i64 2) 8 fun v15 =>
kIndexArr v15 (.int .i64 1) 8 1 fun v16 =>
kPtr v16 fun l17 o17 =>
kLd g4 l17 o17 fun v17 =>
kBin .int .eql v17 (.int .u64 2) fun v18 =>
kSplit v18 (
C persist_Sure_id [(.slice (some ⟨l6, 0, none⟩) 3 3), (.int .i64 3)] g4 n9 fun v22 g5 n22 =>
kBin .int .eql v22 (.int .i64 1) fun v23 =>
kSplit v23 (
kFill [(.int .u64 0), (.int .u64 0), (.int .u64 0), (.int .u64 0), (.int .u64 0), (.int .u64 0), (.int .u64 0), (.int .u64 0)] [] fun c26 =>
kFill [(.int .u64 0), (.int .u64 0), (.int .u64 0), (.int .u64 0), (.int .u64 0), (.int .u64 0), (.int .u64 0), (.int .u64 0)] [] fun c27 =>
C persist_May_id [(.agg c26.toArray), (.agg c27.toArray), (.slice (some ⟨l6, 0, none⟩) 3 3), (.int .i64 3)] g5 n22 fun v29 g6 n29 =>
kUn .not v29 fun v30 =>
kSplit v30 (
kFill [(.int .u64 0), (.int .u64 0), (.int .u64 0), (.int .u64 0), (.int .u64 0), (.int .u64 0), (.int .u64 0), (.int .u64 0)] [] fun c33 =>
kFill [(.int .u64 0), (.int .u64 0), (.int .u64 0), (.int .u64 0), (.int .u64 0), (.int .u64 0), (.int .u64 0), (.int .u64 0)] [(0, none, (.int .u64 0)), (1, none, (.int .u64 1))] fun c34 =>
C persist_May_id [(.agg c33.toArray), (.agg c34.toArray), (.slice (some ⟨l6, 0, none⟩) 3 3), (.int .i64 3)] g6 n29 fun v36 g7 n36 =>
kSplit v36 (
C persist_Word_id [(.int .u64 0), (.int .u64 2), (.slice (some ⟨l6, 0, none⟩) 3 3), (.int .i64 3), (.int .i64 1)] g7 n36 fun v40 g8 n40 =>
aRet K v40 g8 n40) (
aRet K (.bool false) g7 n36)) (
aRet K (.bool false) g6 n29)) (
aRet K (.bool false) g5 n22)) (
aRet K (.bool false) g4 n9)) (
aRet K (.bool false) g4 n9)

theorem bellowslaw19_wakes_eq (C : CT) (g : G) (n : Nat) (K : Cont) : bellowslaw19_wakes C g n K = abody Try.prog C bellowslaw19_wakes_id [] g n K := by kernel_rfl

/- bellows/persist.Sure -/
def persist_Sure_j2 (C : CT) (K : Cont) (t : Env) (g : G) (n : Nat) : Prop :=
kSlice (t 0) none (some (t 5)) none 5 fun v28 =>
C persist_stores_id [v28, (t 1)] g n fun v30 g3 n30 =>
kLen v30 fun v31 =>
aRet K v31 g3 n30

def persist_Sure_l1 (C : CT) (K : Cont) (I_l1 : ECont) (t : Env) (g : G) (n : Nat) : Prop :=
kBin .int .lss (t 10) (t 9) fun v11 =>
kSplit v11 (
kIndexAddr (t 8) (t 10) 5 fun v13 =>
kPtr v13 fun l14 o14 =>
kLdN g l14 o14 5 fun c14 =>
kNew [(.int .i64 0), (.int .i64 0), (.int .i64 0), (.int .i64 0), (.int .u64 0)] .exact g n fun l7 g1 n7 =>
kAgg (.agg c14.toArray) fun cg2 =>
cg2.length = 5 ∧ kStN g1 l7 0 cg2 fun g2 =>
kLd g2 l7 (0 + 0) fun v16 =>
kBin .int .eql v16 (.int .i64 5) fun v17 =>
kSplit v17 (
kLd g2 l7 (0 + 2) fun v20 =>
kBin .int .eql v20 (t 1) fun v22 =>
kSplit v22 (
kBin .int .add (t 10) (.int .i64 1) fun v25 =>
I_l1 (puts t [(11, v11), (12, (t 10)), (13, v13), (14, (.agg c14.toArray)), (7, (ptr l7 0)), (6, (t 10)), (15, (ptr l7 (0 + 0))), (16, v16), (17, v17), (18, (.bool true)), (19, (ptr l7 (0 + 2))), (20, v20), (21, (t 1)), (22, v22), (23, v22), (24, (t 10)), (5, (t 10)), (25, v25), (10, v25)]) g2 n7) (
kBin .int .add (t 10) (.int .i64 1) fun v25 =>
I_l1 (puts t [(11, v11), (12, (t 10)), (13, v13), (14, (.agg c14.toArray)), (7, (ptr l7 0)), (6, (t 10)), (15, (ptr l7 (0 + 0))), (16, v16), (17, v17), (18, (.bool true)), (19, (ptr l7 (0 + 2))), (20, v20), (21, (t 1)), (22, v22), (23, v22), (25, v25), (10, v25)]) g2 n7)) (
kBin .int .add (t 10) (.int .i64 1) fun v25 =>
I_l1 (puts t [(11, v11), (12, (t 10)), (13, v13), (14, (.agg c14.toArray)), (7, (ptr l7 0)), (6, (t 10)), (15, (ptr l7 (0 + 0))), (16, v16), (17, v17), (18, (.bool false)), (19, undef), (20, undef), (21, undef), (22, undef), (23, (.bool false)), (25, v25), (10, v25)]) g2 n7)) (
persist_Sure_j2 C K (puts t [(11, v11)]) g n)

def persist_Sure (C : CT) (a0 a1 : Value) (g : G) (n : Nat) (K : Cont) : Prop :=
kLen a0 fun v9 =>
lfp (persist_Sure_l1 C K) (puts (args0 [a0, a1]) [(4, (.int .i64 0)), (5, (.int .i64 0)), (8, a0), (9, v9), (10, (.int .i64 0))]) g n

theorem persist_Sure_eq (C : CT) (a0 a1 : Value) (g : G) (n : Nat) (K : Cont) : persist_Sure C a0 a1 g n K = abody Try.prog C persist_Sure_id [a0, a1] g n K := by kernel_rfl

/- bellows/persist.History -/
def persist_History_l1 (C : CT) (K : Cont) (I_l1 : ECont) (t : Env) (g : G) (n : Nat) : Prop :=
kBin .int .lss (t 23) (t 22) fun v24 =>
kSplit v24 (
kIndexAddr (t 21) (t 23) 5 fun v26 =>
kPtr v26 fun l27 o27 =>
kLdN g l27 o27 5 fun c27 =>
kNew [(.int .i64 0), (.int .i64 0), (.int .i64 0), (.int .i64 0), (.int .u64 0)] .exact g n fun l10 g5 n10 =>
kAgg (.agg c27.toArray) fun cg6 =>
cg6.length = 5 ∧ kStN g5 l10 0 cg6 fun g6 =>
kBin .int .add (t 23) (.int .i64 1) fun v30 =>
kSlice (t 8) (some v30) none none 8 fun v31 =>
kBin .int .add (t 23) (.int .i64 1) fun v35 =>
kSlice (t 8) (some (t 23)) (some v35) none 8 fun v36 =>
kCopy v31 v36 8 g6 fun v37 g7 =>
kBin .int .add (t 23) (.int .i64 1) fun v40 =>
kBin .int .add (t 23) (.int .i64 1) fun v43 =>
kIndexAddr (t 8) v43 8 fun v44 =>
kPtr v44 fun l45 o45 =>
kLdN g7 l45 o45 8 fun c45 =>
kLd g7 l10 (0 + 3) fun v47 =>
kLd g7 l10 (0 + 4) fun v49 =>
C word_Put_id [(.agg c45.toArray), v47, v49] g7 n10 fun v50 g8 n50 =>
kIndexAddr (t 8) v40 8 fun v51 =>
kPtr v51 fun lg9 og9 =>
kAgg v50 fun cg9 =>
cg9.length = 8 ∧ kStN g8 lg9 og9 cg9 fun g9 =>
kBin .int .add (t 23) (.int .i64 1) fun v52 =>
I_l1 (puts t [(24, v24), (25, (t 23)), (26, v26), (27, (.agg c27.toArray)), (10, (ptr l10 0)), (9, (t 23)), (28, (t 8)), (29, (t 23)), (30, v30), (31, v31), (32, (t 8)), (33, (t 23)), (34, (t 23)), (35, v35), (36, v36), (37, v37), (38, (t 8)), (39, (t 23)), (40, v40), (41, (t 8)), (42, (t 23)), (43, v43), (44, v44), (45, (.agg c45.toArray)), (46, (ptr l10 (0 + 3))), (47, v47), (48, (ptr l10 (0 + 4))), (49, v49), (50, v50), (51, v51), (52, v52), (23, v52)]) g9 n50) (
aRet K (t 8) g n)

def persist_History (C : CT) (a0 a1 a2 : Value) (g : G) (n : Nat) (K : Cont) : Prop :=
kAgg a0 fun c3 =>
kNew c3 .exact g n fun l3 g1 n3 =>
C persist_stores_id [a1, a2] g1 n3 fun v13 g2 n13 =>
kLen v13 fun v15 =>
kBin .int .add v15 (.int .i64 1) fun v16 =>
kMake v16 v16 [(.int .u64 0), (.int .u64 0), (.int .u64 0), (.int .u64 0), (.int .u64 0), (.int .u64 0), (.int .u64 0), (.int .u64 0)] 64 g2 n13 fun v17 g3 n17 =>
kLdN g3 l3 0 8 fun c19 =>
kIndexAddr v17 (.int .i64 0) 8 fun v20 =>
kPtr v20 fun lg4 og4 =>
kAgg (.agg c19.toArray) fun cg4 =>
cg4.length = 8 ∧ kStN g3 lg4 og4 cg4 fun g4 =>
kLen v13 fun v22 =>
lfp (persist_History_l1 C K) (puts (args0 [a0, a1, a2]) [(3, (ptr l3 0)), (6, (.slice none 0 0)), (11, a1), (12, a2), (13, v13), (7, v13), (14, v13), (15, v15), (16, v16), (17, v17), (8, v17), (18, v17), (19, (.agg c19.toArray)), (20, v20), (21, v13), (22, v22), (23, (.int .i64 0))]) g4 n17

theorem persist_History_eq (C : CT) (a0 a1 a2 : Value) (g : G) (n : Nat) (K : Cont) : persist_History C a0 a1 a2 g n K = abody Try.prog C persist_History_id [a0, a1, a2] g n K := by kernel_rfl

/- bellows/persist.May -/
def persist_May (C : CT) (a0 a1 a2 a3 : Value) (g : G) (n : Nat) (K : Cont) : Prop :=
kAgg a0 fun c4 =>
kNew c4 .exact g n fun l4 g1 n4 =>
kAgg a1 fun c5 =>
kNew c5 .exact g1 n4 fun l5 g2 n5 =>
kLdN g2 l4 0 8 fun c9 =>
kLdN g2 l5 0 8 fun c17 =>
C persist_History_id [(.agg c9.toArray), a2, a3] g2 n5 fun v12 g3 n12 =>
(kPtr (ptr l5 0) fun l _ => g3 l = g2 l) ∧ C persist_Sure_id [a2, a3] g3 n12 fun v15 g4 n15 =>
(kPtr (ptr l5 0) fun l _ => g4 l = g3 l) ∧ kSlice v12 (some v15) none none 8 fun v16 =>
C slices_Contains_api_Line_api_Line_id [v16, (.agg c17.toArray)] g4 n15 fun v18 g5 n18 =>
aRet K v18 g5 n18

theorem persist_May_eq (C : CT) (a0 a1 a2 a3 : Value) (g : G) (n : Nat) (K : Cont) : persist_May C a0 a1 a2 a3 g n K = abody Try.prog C persist_May_id [a0, a1, a2, a3] g n K := by kernel_rfl

/- bellows/array.New -/
def array_New (C : CT) (a0 a1 : Value) (g : G) (n : Nat) (K : Cont) : Prop :=
kBin .int .neq a0 (.int .i64 1) fun v7 =>
kSplit v7 (
kBin .int .neq a0 (.int .i64 2) fun v10 =>
kSplit v10 (
kBin .int .neq a0 (.int .i64 4) fun v14 =>
kSplit v14 (
kBin .int .neq a0 (.int .i64 8) fun v18 =>
kSplit v18 (
aRet K (.tuple #[(.pointer none), (.int .i64 1)]) g n) (
kBin .int .lss a1 (.int .i64 1) fun v22 =>
kSplit v22 (
aRet K (.tuple #[(.pointer none), (.int .i64 1)]) g n) (
kBin .int .gtr a1 (.int .i64 8) fun v26 =>
kSplit v26 (
aRet K (.tuple #[(.pointer none), (.int .i64 1)]) g n) (
kBin .int .mul a0 a1 fun v32 =>
kMake v32 v32 [(.int .i64 0), (.int .i64 0), (.int .u64 0), (.int .u64 0), (.int .u64 0), (.int .u64 0), (.int .u64 0), (.int .u64 0), (.int .u64 0), (.int .u64 0), (.int .i64 0)] 88 g n fun v33 g1 n33 =>
kFill [(.int .i64 0), (.int .i64 0), (.slice none 0 0), (.int .i64 0)] [(0, none, a0), (1, none, a1), (2, none, v33)] fun c34 =>
kAgg (.agg c34.toArray) fun c35 =>
kNew c35 .exact g1 n33 fun l35 g2 n35 =>
aRet K (.tuple #[(ptr l35 0), (.int .i64 0)]) g2 n35)))) (
kBin .int .lss a1 (.int .i64 1) fun v22 =>
kSplit v22 (
aRet K (.tuple #[(.pointer none), (.int .i64 1)]) g n) (
kBin .int .gtr a1 (.int .i64 8) fun v26 =>
kSplit v26 (
aRet K (.tuple #[(.pointer none), (.int .i64 1)]) g n) (
kBin .int .mul a0 a1 fun v32 =>
kMake v32 v32 [(.int .i64 0), (.int .i64 0), (.int .u64 0), (.int .u64 0), (.int .u64 0), (.int .u64 0), (.int .u64 0), (.int .u64 0), (.int .u64 0), (.int .u64 0), (.int .i64 0)] 88 g n fun v33 g3 n33 =>
kFill [(.int .i64 0), (.int .i64 0), (.slice none 0 0), (.int .i64 0)] [(0, none, a0), (1, none, a1), (2, none, v33)] fun c34 =>
kAgg (.agg c34.toArray) fun c35 =>
kNew c35 .exact g3 n33 fun l35 g4 n35 =>
aRet K (.tuple #[(ptr l35 0), (.int .i64 0)]) g4 n35)))) (
kBin .int .lss a1 (.int .i64 1) fun v22 =>
kSplit v22 (
aRet K (.tuple #[(.pointer none), (.int .i64 1)]) g n) (
kBin .int .gtr a1 (.int .i64 8) fun v26 =>
kSplit v26 (
aRet K (.tuple #[(.pointer none), (.int .i64 1)]) g n) (
kBin .int .mul a0 a1 fun v32 =>
kMake v32 v32 [(.int .i64 0), (.int .i64 0), (.int .u64 0), (.int .u64 0), (.int .u64 0), (.int .u64 0), (.int .u64 0), (.int .u64 0), (.int .u64 0), (.int .u64 0), (.int .i64 0)] 88 g n fun v33 g5 n33 =>
kFill [(.int .i64 0), (.int .i64 0), (.slice none 0 0), (.int .i64 0)] [(0, none, a0), (1, none, a1), (2, none, v33)] fun c34 =>
kAgg (.agg c34.toArray) fun c35 =>
kNew c35 .exact g5 n33 fun l35 g6 n35 =>
aRet K (.tuple #[(ptr l35 0), (.int .i64 0)]) g6 n35)))) (
kBin .int .lss a1 (.int .i64 1) fun v22 =>
kSplit v22 (
aRet K (.tuple #[(.pointer none), (.int .i64 1)]) g n) (
kBin .int .gtr a1 (.int .i64 8) fun v26 =>
kSplit v26 (
aRet K (.tuple #[(.pointer none), (.int .i64 1)]) g n) (
kBin .int .mul a0 a1 fun v32 =>
kMake v32 v32 [(.int .i64 0), (.int .i64 0), (.int .u64 0), (.int .u64 0), (.int .u64 0), (.int .u64 0), (.int .u64 0), (.int .u64 0), (.int .u64 0), (.int .u64 0), (.int .i64 0)] 88 g n fun v33 g7 n33 =>
kFill [(.int .i64 0), (.int .i64 0), (.slice none 0 0), (.int .i64 0)] [(0, none, a0), (1, none, a1), (2, none, v33)] fun c34 =>
kAgg (.agg c34.toArray) fun c35 =>
kNew c35 .exact g7 n33 fun l35 g8 n35 =>
aRet K (.tuple #[(ptr l35 0), (.int .i64 0)]) g8 n35)))

theorem array_New_eq (C : CT) (a0 a1 : Value) (g : G) (n : Nat) (K : Cont) : array_New C a0 a1 g n K = abody Try.prog C array_New_id [a0, a1] g n K := by kernel_rfl

/- bellows/bellowslaw05.wakes -/
def bellowslaw05_wakes (C : CT) (g : G) (n : Nat) (K : Cont) : Prop :=
C array_New_id [(.int .i64 1), (.int .i64 1)] g n fun v8 g1 n8 =>
kExtract v8 0 fun v9 =>
kExtract v8 1 fun v10 =>
kBin .int .neq v10 (.int .i64 0) fun v12 =>
kSplit v12 (
aRet K (.bool false) g1 n8) (
kBin .ptr .eql v9 (.pointer none) fun v15 =>
kSplit v15 (
aRet K (.bool false) g1 n8) (
kFill [(.int .u64 0), (.int .u64 0), (.int .u64 0), (.int .u64 0), (.int .u64 0), (.int .u64 0), (.int .u64 0), (.int .u64 0)] [(0, none, (.int .u64 5))] fun c19 =>
C array_Array_Set_id [v9, (.int .i64 3), (.int .i64 1), (.agg c19.toArray)] g1 n8 fun v20 g2 n20 =>
kBin .int .neq v20 (.int .i64 0) fun v21 =>
kSplit v21 (
aRet K (.bool false) g2 n20) (
kFill [(.int .u64 0), (.int .u64 0), (.int .u64 0), (.int .u64 0), (.int .u64 0), (.int .u64 0), (.int .u64 0), (.int .u64 0)] [] fun c25 =>
C array_Array_Set_id [v9, (.int .i64 4), (.int .i64 2), (.agg c25.toArray)] g2 n20 fun v26 g3 n26 =>
kBin .int .neq v26 (.int .i64 13) fun v27 =>
kSplit v27 (
aRet K (.bool false) g3 n26) (
C array_Array_Room_id [v9, (.int .i64 4)] g3 n26 fun v31 g4 n31 =>
kExtract v31 0 fun v32 =>
kExtract v31 1 fun v33 =>
C array_Array_Find_id [v9, (.int .i64 3)] g4 n31 fun v36 g5 n36 =>
kExtract v36 0 fun v37 =>
kExtract v36 1 fun v38 =>
kNew [(.int .i64 0), (.int .i64 0), (.int .u64 0), (.int .u64 0), (.int .u64 0), (.int .u64 0), (.int .u64 0), (.int .u64 0), (.int .u64 0), (.int .u64 0), (.int .i64 0)] .exact g5 n36 fun l5 g6 n5 =>
kAgg v37 fun cg7 =>
cg7.length = 11 ∧ kStN g6 l5 0 cg7 fun g7 =>
kUn .not v32 fun v40 =>
kSplit v40 (
kBin .int .eql v33 (.int .i64 3) fun v43 =>
kSplit v43 (
kSplit v38 (
kLd g7 l5 (0 + 0) fun v50 =>
kBin .int .eql v50 (.int .i64 1) fun v51 =>
kSplit v51 (
kIndexArr (ptr l5 (0 + 2)) (.int .i64 0) 8 1 fun v55 =>
kPtr v55 fun l56 o56 =>
kLd g7 l56 o56 fun v56 =>
kBin .int .eql v56 (.int .u64 5) fun v57 =>
kSplit v57 (
C array_Array_Slots_id [v9] g7 n5 fun v61 g8 n61 =>
kLen v61 fun v62 =>
kBin .int .eql v62 (.int .i64 1) fun v63 =>
kSplit v63 (
C array_Array_Drop_id [v9, (.int .i64 3)] g8 n61 fun v67 g9 n67 =>
kSplit v67 (
C array_Array_Drop_id [v9, (.int .i64 3)] g9 n67 fun v71 g10 n71 =>
kUn .not v71 fun v72 =>
aRet K v72 g10 n71) (
aRet K (.bool false) g9 n67)) (
aRet K (.bool false) g8 n61)) (
aRet K (.bool false) g7 n5)) (
aRet K (.bool false) g7 n5)) (
aRet K (.bool false) g7 n5)) (
aRet K (.bool false) g7 n5)) (
aRet K (.bool false) g7 n5)))))

theorem bellowslaw05_wakes_eq (C : CT) (g : G) (n : Nat) (K : Cont) : bellowslaw05_wakes C g n K = abody Try.prog C bellowslaw05_wakes_id [] g n K := by kernel_rfl

/- (*bellows/array.Array).Set -/
def array_Array_Set_j1 (C : CT) (K : Cont) (t : Env) (g : G) (n : Nat) : Prop :=
kBin .int .lss (t 9) (.int .i64 0) fun v36 =>
kSplit v36 (
aRet K (.int .i64 13) g n) (
kPtr (t 7) fun l41 o41 =>
kLdN g l41 o41 8 fun c41 =>
C array_Array_number_id [(t 0)] g n fun v43 g5 n43 =>
(kPtr (t 7) fun l _ => g5 l = g l) ∧ kFill [(.int .i64 0), (.int .i64 0), (.int .u64 0), (.int .u64 0), (.int .u64 0), (.int .u64 0), (.int .u64 0), (.int .u64 0), (.int .u64 0), (.int .u64 0), (.int .i64 0)] [(0, none, (t 2)), (1, none, (t 1)), (2, (some 8), (.agg c41.toArray)), (10, none, v43)] fun c44 =>
kIndexAddr (t 10) (t 9) 11 fun v45 =>
kPtr v45 fun lg6 og6 =>
kAgg (.agg c44.toArray) fun cg6 =>
cg6.length = 11 ∧ kStN g5 lg6 og6 cg6 fun g6 =>
aRet K (.int .i64 0) g6 n43)

def array_Array_Set (C : CT) (a0 a1 a2 a3 : Value) (g : G) (n : Nat) (K : Cont) : Prop :=
kAgg a3 fun c7 =>
kNew c7 .exact g n fun l7 g1 n7 =>
kBin .ptr .eql a0 (.pointer none) fun v12 =>
kSplit v12 (
aRet K (.int .i64 1) g1 n7) (
kBin .int .lss a1 (.int .i64 0) fun v15 =>
kSplit v15 (
aRet K (.int .i64 1) g1 n7) (
kBin .int .lss a2 (.int .i64 1) fun v19 =>
kSplit v19 (
aRet K (.int .i64 1) g1 n7) (
kBin .int .gtr a2 (.int .i64 9) fun v23 =>
kSplit v23 (
aRet K (.int .i64 1) g1 n7) (
C array_Array_at_id [a0, a1] g1 n7 fun v27 g2 n27 =>
C array_Array_set_id [a0, a1] g2 n27 fun v30 g3 n30 =>
kBin .int .lss v27 (.int .i64 0) fun v32 =>
kSplit v32 (
C slices_IndexFunc_array_Slot_array_Slot_id [v30, (.func (.func array_empty_id) #[] #[])] g3 n30 fun v34 g4 n34 =>
array_Array_Set_j1 C K (puts (args0 [a0, a1, a2, a3]) [(7, (ptr l7 0)), (8, (.int .i64 0)), (11, a0), (12, v12), (13, (.bool false)), (14, a1), (15, v15), (16, v15), (17, (.bool false)), (18, a2), (19, v19), (20, v19), (21, (.bool false)), (22, a2), (23, v23), (24, v23), (25, a0), (26, a1), (27, v27), (28, a0), (29, a1), (30, v30), (9, v27), (10, v30), (31, v27), (32, v32), (33, v30), (34, v34), (9, v34)]) g4 n34) (
array_Array_Set_j1 C K (puts (args0 [a0, a1, a2, a3]) [(7, (ptr l7 0)), (8, (.int .i64 0)), (11, a0), (12, v12), (13, (.bool false)), (14, a1), (15, v15), (16, v15), (17, (.bool false)), (18, a2), (19, v19), (20, v19), (21, (.bool false)), (22, a2), (23, v23), (24, v23), (25, a0), (26, a1), (27, v27), (28, a0), (29, a1), (30, v30), (9, v27), (10, v30), (31, v27), (32, v32)]) g3 n30)))))

theorem array_Array_Set_eq (C : CT) (a0 a1 a2 a3 : Value) (g : G) (n : Nat) (K : Cont) : array_Array_Set C a0 a1 a2 a3 g n K = abody Try.prog C array_Array_Set_id [a0, a1, a2, a3] g n K := by kernel_rfl

/- (*bellows/array.Array).Room -/
def array_Array_Room_j2 (C : CT) (K : Cont) (I_l1 : ECont) (t : Env) (g : G) (n : Nat) : Prop :=
kSplit (t 27) (
kBin .int .lss (t 5) (.int .i64 0) fun v32 =>
kSplit v32 (
kPtr (t 8) fun l39 o39 =>
kLd g l39 (o39 + 1) fun v40 =>
kPtr (t 8) fun l41 o41 =>
kLd g l41 (o41 + 10) fun v42 =>
kBin .int .add (t 19) (.int .i64 1) fun v43 =>
I_l1 (puts t [(31, (t 5)), (32, v32), (33, (.bool true)), (34, undef), (35, undef), (36, undef), (37, undef), (38, (.bool true)), (39, (ptr l39 (o39 + 1))), (40, v40), (41, (ptr l41 (o41 + 10))), (42, v42), (5, v40), (6, v42), (43, v43), (19, v43)]) g n) (
kPtr (t 8) fun l34 o34 =>
kLd g l34 (o34 + 10) fun v35 =>
kBin .int .lss v35 (t 6) fun v37 =>
kSplit v37 (
kPtr (t 8) fun l39 o39 =>
kLd g l39 (o39 + 1) fun v40 =>
kPtr (t 8) fun l41 o41 =>
kLd g l41 (o41 + 10) fun v42 =>
kBin .int .add (t 19) (.int .i64 1) fun v43 =>
I_l1 (puts t [(31, (t 5)), (32, v32), (33, (.bool false)), (34, (ptr l34 (o34 + 10))), (35, v35), (36, (t 6)), (37, v37), (38, v37), (39, (ptr l39 (o39 + 1))), (40, v40), (41, (ptr l41 (o41 + 10))), (42, v42), (5, v40), (6, v42), (43, v43), (19, v43)]) g n) (
kBin .int .add (t 19) (.int .i64 1) fun v43 =>
I_l1 (puts t [(31, (t 5)), (32, v32), (33, (.bool false)), (34, (ptr l34 (o34 + 10))), (35, v35), (36, (t 6)), (37, v37), (38, v37), (43, v43), (19, v43)]) g n))) (
kBin .int .add (t 19) (.int .i64 1) fun v43 =>
I_l1 (puts t [(43, v43), (19, v43)]) g n)

def array_Array_Room_j3 (C : CT) (K : Cont) (t : Env) (g : G) (n : Nat) : Prop :=
aRet K (.tuple #[(.bool false), (t 5)]) g n

def array_Array_Room_l1 (C : CT) (K : Cont) (I_l1 : ECont) (t : Env) (g : G) (n : Nat) : Prop :=
kBin .int .lss (t 19) (t 18) fun v20 =>
kSplit v20 (
kIndexAddr (t 17) (t 19) 11 fun v21 =>
kPtr v21 fun l22 o22 =>
kLdN g l22 o22 11 fun c22 =>
kNew [(.int .i64 0), (.int .i64 0), (.int .u64 0), (.int .u64 0), (.int .u64 0), (.int .u64 0), (.int .u64 0), (.int .u64 0), (.int .u64 0), (.int .u64 0), (.int .i64 0)] .exact g n fun l8 g2 n8 =>
kAgg (.agg c22.toArray) fun cg3 =>
cg3.length = 11 ∧ kStN g2 l8 0 cg3 fun g3 =>
kLd g3 l8 (0 + 0) fun v24 =>
kBin .int .eql v24 (.int .i64 0) fun v26 =>
kSplit v26 (
aRet K (.tuple #[(.bool true), (.int .i64 (-1))]) g3 n8) (
kBin .int .eql v24 (.int .i64 1) fun v28 =>
kSplit v28 (
array_Array_Room_j2 C K I_l1 (puts t [(20, v20), (21, v21), (22, (.agg c22.toArray)), (8, (ptr l8 0)), (23, (ptr l8 (0 + 0))), (24, v24), (26, v26), (25, v26), (28, v28), (27, v28)]) g3 n8) (
kBin .int .eql v24 (.int .i64 2) fun v29 =>
kSplit v29 (
array_Array_Room_j2 C K I_l1 (puts t [(20, v20), (21, v21), (22, (.agg c22.toArray)), (8, (ptr l8 0)), (23, (ptr l8 (0 + 0))), (24, v24), (26, v26), (25, v26), (28, v28), (27, v28), (29, v29), (27, v29)]) g3 n8) (
kBin .int .eql v24 (.int .i64 3) fun v30 =>
array_Array_Room_j2 C K I_l1 (puts t [(20, v20), (21, v21), (22, (.agg c22.toArray)), (8, (ptr l8 0)), (23, (ptr l8 (0 + 0))), (24, v24), (26, v26), (25, v26), (28, v28), (27, v28), (29, v29), (27, v29), (30, v30), (27, v30)]) g3 n8)))) (
array_Array_Room_j3 C K (puts t [(20, v20)]) g n)

def array_Array_Room (C : CT) (a0 a1 : Value) (g : G) (n : Nat) (K : Cont) : Prop :=
kBin .ptr .eql a0 (.pointer none) fun v10 =>
kSplit v10 (
aRet K (.tuple #[(.bool false), (.int .i64 (-1))]) g n) (
kBin .int .lss a1 (.int .i64 0) fun v13 =>
kSplit v13 (
aRet K (.tuple #[(.bool false), (.int .i64 (-1))]) g n) (
C array_Array_set_id [a0, a1] g n fun v17 g1 n17 =>
kLen v17 fun v18 =>
lfp (array_Array_Room_l1 C K) (puts (args0 [a0, a1]) [(4, (.bool false)), (5, (.int .i64 0)), (9, a0), (10, v10), (11, (.bool false)), (12, a1), (13, v13), (14, v13), (5, (.int .i64 (-1))), (6, (.int .i64 0)), (15, a0), (16, a1), (17, v17), (18, v18), (19, (.int .i64 0))]) g1 n17))

theorem array_Array_Room_eq (C : CT) (a0 a1 : Value) (g : G) (n : Nat) (K : Cont) : array_Array_Room C a0 a1 g n K = abody Try.prog C array_Array_Room_id [a0, a1] g n K := by kernel_rfl

/- (*bellows/array.Array).Drop -/
def array_Array_Drop_j1 (C : CT) (K : Cont) (t : Env) (g : G) (n : Nat) : Prop :=
kBin .int .geq (t 5) (.int .i64 0) fun v18 =>
aRet K v18 g n

def array_Array_Drop (C : CT) (a0 a1 : Value) (g : G) (n : Nat) (K : Cont) : Prop :=
C array_Array_at_id [a0, a1] g n fun v8 g1 n8 =>
kBin .int .geq v8 (.int .i64 0) fun v10 =>
kSplit v10 (
C array_Array_set_id [a0, a1] g1 n8 fun v13 g2 n13 =>
kFill [(.int .i64 0), (.int .i64 0), (.int .u64 0), (.int .u64 0), (.int .u64 0), (.int .u64 0), (.int .u64 0), (.int .u64 0), (.int .u64 0), (.int .u64 0), (.int .i64 0)] [] fun c15 =>
kIndexAddr v13 v8 11 fun v16 =>
kPtr v16 fun lg3 og3 =>
kAgg (.agg c15.toArray) fun cg3 =>
cg3.length = 11 ∧ kStN g2 lg3 og3 cg3 fun g3 =>
array_Array_Drop_j1 C K (puts (args0 [a0, a1]) [(4, (.bool false)), (6, a0), (7, a1), (8, v8), (5, v8), (9, v8), (10, v10), (11, a0), (12, a1), (13, v13), (14, v8), (15, (.agg c15.toArray)), (16, v16)]) g3 n13) (
array_Array_Drop_j1 C K (puts (args0 [a0, a1]) [(4, (.bool false)), (6, a0), (7, a1), (8, v8), (5, v8), (9, v8), (10, v10)]) g1 n8)

theorem array_Array_Drop_eq (C : CT) (a0 a1 : Value) (g : G) (n : Nat) (K : Cont) : array_Array_Drop C a0 a1 g n K = abody Try.prog C array_Array_Drop_id [a0, a1] g n K := by kernel_rfl

/- (*bellows/array.Array).Find -/
def array_Array_Find (C : CT) (a0 a1 : Value) (g : G) (n : Nat) (K : Cont) : Prop :=
kNew [(.int .i64 0), (.int .i64 0), (.int .u64 0), (.int .u64 0), (.int .u64 0), (.int .u64 0), (.int .u64 0), (.int .u64 0), (.int .u64 0), (.int .u64 0), (.int .i64 0)] .exact g n fun l4 g1 n4 =>
C array_Array_at_id [a0, a1] g1 n4 fun v9 g2 n9 =>
kBin .int .lss v9 (.int .i64 0) fun v11 =>
kSplit v11 (
kFill [(.int .i64 0), (.int .i64 0), (.int .u64 0), (.int .u64 0), (.int .u64 0), (.int .u64 0), (.int .u64 0), (.int .u64 0), (.int .u64 0), (.int .u64 0), (.int .i64 0)] [] fun c12 =>
kAgg (.agg c12.toArray) fun cg3 =>
cg3.length = 11 ∧ kStN g2 l4 0 cg3 fun g3 =>
kLdN g3 l4 0 11 fun r0 =>
aRet K (.tuple #[(.agg r0.toArray), (.bool false)]) g3 n9) (
C array_Array_set_id [a0, a1] g2 n9 fun v15 g4 n15 =>
kIndexAddr v15 v9 11 fun v17 =>
kPtr v17 fun l18 o18 =>
kLdN g4 l18 o18 11 fun c18 =>
kAgg (.agg c18.toArray) fun cg5 =>
cg5.length = 11 ∧ kStN g4 l4 0 cg5 fun g5 =>
kLdN g5 l4 0 11 fun r0 =>
aRet K (.tuple #[(.agg r0.toArray), (.bool true)]) g5 n15)

theorem array_Array_Find_eq (C : CT) (a0 a1 : Value) (g : G) (n : Nat) (K : Cont) : array_Array_Find C a0 a1 g n K = abody Try.prog C array_Array_Find_id [a0, a1] g n K := by kernel_rfl

/- bellows/bellowsref05.New -/
def bellowsref05_New (C : CT) (a0 a1 : Value) (g : G) (n : Nat) (K : Cont) : Prop :=
kBin .int .neq a0 (.int .i64 1) fun v7 =>
kSplit v7 (
kBin .int .neq a0 (.int .i64 2) fun v10 =>
kSplit v10 (
kBin .int .neq a0 (.int .i64 4) fun v14 =>
kSplit v14 (
kBin .int .neq a0 (.int .i64 8) fun v18 =>
kSplit v18 (
aRet K (.tuple #[(.pointer none), (.int .i64 1)]) g n) (
kBin .int .lss a1 (.int .i64 1) fun v22 =>
kSplit v22 (
aRet K (.tuple #[(.pointer none), (.int .i64 1)]) g n) (
kBin .int .gtr a1 (.int .i64 8) fun v26 =>
kSplit v26 (
aRet K (.tuple #[(.pointer none), (.int .i64 1)]) g n) (
kBin .int .mul a0 a1 fun v32 =>
kMake v32 v32 [(.int .i64 0), (.int .i64 0), (.int .u64 0), (.int .u64 0), (.int .u64 0), (.int .u64 0), (.int .u64 0), (.int .u64 0), (.int .u64 0), (.int .u64 0), (.int .i64 0)] 88 g n fun v33 g1 n33 =>
kFill [(.int .i64 0), (.int .i64 0), (.slice none 0 0), (.int .i64 0)] [(0, none, a0), (1, none, a1), (2, none, v33)] fun c34 =>
kAgg (.agg c34.toArray) fun c35 =>
kNew c35 .exact g1 n33 fun l35 g2 n35 =>
aRet K (.tuple #[(ptr l35 0), (.int .i64 0)]) g2 n35)))) (
kBin .int .lss a1 (.int .i64 1) fun v22 =>
kSplit v22 (
aRet K (.tuple #[(.pointer none), (.int .i64 1)]) g n) (
kBin .int .gtr a1 (.int .i64 8) fun v26 =>
kSplit v26 (
aRet K (.tuple #[(.pointer none), (.int .i64 1)]) g n) (
kBin .int .mul a0 a1 fun v32 =>
kMake v32 v32 [(.int .i64 0), (.int .i64 0), (.int .u64 0), (.int .u64 0), (.int .u64 0), (.int .u64 0), (.int .u64 0), (.int .u64 0), (.int .u64 0), (.int .u64 0), (.int .i64 0)] 88 g n fun v33 g3 n33 =>
kFill [(.int .i64 0), (.int .i64 0), (.slice none 0 0), (.int .i64 0)] [(0, none, a0), (1, none, a1), (2, none, v33)] fun c34 =>
kAgg (.agg c34.toArray) fun c35 =>
kNew c35 .exact g3 n33 fun l35 g4 n35 =>
aRet K (.tuple #[(ptr l35 0), (.int .i64 0)]) g4 n35)))) (
kBin .int .lss a1 (.int .i64 1) fun v22 =>
kSplit v22 (
aRet K (.tuple #[(.pointer none), (.int .i64 1)]) g n) (
kBin .int .gtr a1 (.int .i64 8) fun v26 =>
kSplit v26 (
aRet K (.tuple #[(.pointer none), (.int .i64 1)]) g n) (
kBin .int .mul a0 a1 fun v32 =>
kMake v32 v32 [(.int .i64 0), (.int .i64 0), (.int .u64 0), (.int .u64 0), (.int .u64 0), (.int .u64 0), (.int .u64 0), (.int .u64 0), (.int .u64 0), (.int .u64 0), (.int .i64 0)] 88 g n fun v33 g5 n33 =>
kFill [(.int .i64 0), (.int .i64 0), (.slice none 0 0), (.int .i64 0)] [(0, none, a0), (1, none, a1), (2, none, v33)] fun c34 =>
kAgg (.agg c34.toArray) fun c35 =>
kNew c35 .exact g5 n33 fun l35 g6 n35 =>
aRet K (.tuple #[(ptr l35 0), (.int .i64 0)]) g6 n35)))) (
kBin .int .lss a1 (.int .i64 1) fun v22 =>
kSplit v22 (
aRet K (.tuple #[(.pointer none), (.int .i64 1)]) g n) (
kBin .int .gtr a1 (.int .i64 8) fun v26 =>
kSplit v26 (
aRet K (.tuple #[(.pointer none), (.int .i64 1)]) g n) (
kBin .int .mul a0 a1 fun v32 =>
kMake v32 v32 [(.int .i64 0), (.int .i64 0), (.int .u64 0), (.int .u64 0), (.int .u64 0), (.int .u64 0), (.int .u64 0), (.int .u64 0), (.int .u64 0), (.int .u64 0), (.int .i64 0)] 88 g n fun v33 g7 n33 =>
kFill [(.int .i64 0), (.int .i64 0), (.slice none 0 0), (.int .i64 0)] [(0, none, a0), (1, none, a1), (2, none, v33)] fun c34 =>
kAgg (.agg c34.toArray) fun c35 =>
kNew c35 .exact g7 n33 fun l35 g8 n35 =>
aRet K (.tuple #[(ptr l35 0), (.int .i64 0)]) g8 n35)))

theorem bellowsref05_New_eq (C : CT) (a0 a1 : Value) (g : G) (n : Nat) (K : Cont) : bellowsref05_New C a0 a1 g n K = abody Try.prog C bellowsref05_New_id [a0, a1] g n K := by kernel_rfl

/- (*bellows/bellowsref05.Array).Set -/
def bellowsref05_Array_Set_j1 (C : CT) (K : Cont) (t : Env) (g : G) (n : Nat) : Prop :=
kBin .int .lss (t 9) (.int .i64 0) fun v29 =>
kSplit v29 (
aRet K (.int .i64 13) g n) (
kNil (t 0) fun v31 =>
kPtr v31 fun l32 o32 =>
kLd g l32 (o32 + 3) fun v33 =>
kBin .int .add v33 (.int .i64 1) fun v34 =>
kNil (t 0) fun v35 =>
kPtr v35 fun l36 o36 =>
kSt g l36 (o36 + 3) v34 fun g4 =>
kNil (t 0) fun v38 =>
kPtr v38 fun l39 o39 =>
kLd g4 l39 (o39 + 2) fun v40 =>
kPtr (t 7) fun l44 o44 =>
kLdN g4 l44 o44 8 fun c44 =>
kNil (t 0) fun v46 =>
kPtr v46 fun l47 o47 =>
kLd g4 l47 (o47 + 3) fun v48 =>
kFill [(.int .i64 0), (.int .i64 0), (.int .u64 0), (.int .u64 0), (.int .u64 0), (.int .u64 0), (.int .u64 0), (.int .u64 0), (.int .u64 0), (.int .u64 0), (.int .i64 0)] [(0, none, (t 2)), (1, none, (t 1)), (2, (some 8), (.agg c44.toArray)), (10, none, v48)] fun c49 =>
kIndexAddr v40 (t 9) 11 fun v50 =>
kPtr v50 fun lg5 og5 =>
kAgg (.agg c49.toArray) fun cg5 =>
cg5.length = 11 ∧ kStN g4 lg5 og5 cg5 fun g5 =>
aRet K (.int .i64 0) g5 n)

def bellowsref05_Array_Set (C : CT) (a0 a1 a2 a3 : Value) (g : G) (n : Nat) (K : Cont) : Prop :=
kAgg a3 fun c7 =>
kNew c7 .exact g n fun l7 g1 n7 =>
kBin .int .lss a1 (.int .i64 0) fun v11 =>
kSplit v11 (
aRet K (.int .i64 1) g1 n7) (
kBin .int .lss a2 (.int .i64 1) fun v14 =>
kSplit v14 (
aRet K (.int .i64 1) g1 n7) (
kBin .int .gtr a2 (.int .i64 9) fun v18 =>
kSplit v18 (
aRet K (.int .i64 1) g1 n7) (
C bellowsref05_Array_At_id [a0, a1] g1 n7 fun v22 g2 n22 =>
kBin .int .lss v22 (.int .i64 0) fun v24 =>
kSplit v24 (
C bellowsref05_Array_Free_id [a0, a1] g2 n22 fun v27 g3 n27 =>
bellowsref05_Array_Set_j1 C K (puts (args0 [a0, a1, a2, a3]) [(7, (ptr l7 0)), (8, (.int .i64 0)), (10, a1), (11, v11), (12, (.bool false)), (13, a2), (14, v14), (15, v14), (16, (.bool false)), (17, a2), (18, v18), (19, v18), (20, a0), (21, a1), (22, v22), (9, v22), (23, v22), (24, v24), (25, a0), (26, a1), (27, v27), (9, v27)]) g3 n27) (
bellowsref05_Array_Set_j1 C K (puts (args0 [a0, a1, a2, a3]) [(7, (ptr l7 0)), (8, (.int .i64 0)), (10, a1), (11, v11), (12, (.bool false)), (13, a2), (14, v14), (15, v14), (16, (.bool false)), (17, a2), (18, v18), (19, v18), (20, a0), (21, a1), (22, v22), (9, v22), (23, v22), (24, v24)]) g2 n22))))

theorem bellowsref05_Array_Set_eq (C : CT) (a0 a1 a2 a3 : Value) (g : G) (n : Nat) (K : Cont) : bellowsref05_Array_Set C a0 a1 a2 a3 g n K = abody Try.prog C bellowsref05_Array_Set_id [a0, a1, a2, a3] g n K := by kernel_rfl

/- (*bellows/array.Array).Touch -/
def array_Array_Touch (C : CT) (a0 a1 : Value) (g : G) (n : Nat) (K : Cont) : Prop :=
C array_Array_at_id [a0, a1] g n fun v7 g1 n7 =>
kBin .int .geq v7 (.int .i64 0) fun v9 =>
kSplit v9 (
C array_Array_set_id [a0, a1] g1 n7 fun v12 g2 n12 =>
C array_Array_number_id [a0] g2 n12 fun v15 g3 n15 =>
kIndexAddr v12 v7 11 fun v16 =>
kPtr v16 fun l17 o17 =>
kSt g3 l17 (o17 + 10) v15 fun g4 =>
aRet K (.tuple #[]) g4 n15) (
aRet K (.tuple #[]) g1 n7)

theorem array_Array_Touch_eq (C : CT) (a0 a1 : Value) (g : G) (n : Nat) (K : Cont) : array_Array_Touch C a0 a1 g n K = abody Try.prog C array_Array_Touch_id [a0, a1] g n K := by kernel_rfl

/- (*bellows/bellowsref05.Array).Touch -/
def bellowsref05_Array_Touch (C : CT) (a0 a1 : Value) (g : G) (n : Nat) (K : Cont) : Prop :=
C bellowsref05_Array_At_id [a0, a1] g n fun v7 g1 n7 =>
kBin .int .geq v7 (.int .i64 0) fun v9 =>
kSplit v9 (
kNil a0 fun v11 =>
kPtr v11 fun l12 o12 =>
kLd g1 l12 (o12 + 3) fun v13 =>
kBin .int .add v13 (.int .i64 1) fun v14 =>
kNil a0 fun v15 =>
kPtr v15 fun l16 o16 =>
kSt g1 l16 (o16 + 3) v14 fun g2 =>
kNil a0 fun v18 =>
kPtr v18 fun l19 o19 =>
kLd g2 l19 (o19 + 2) fun v20 =>
kNil a0 fun v23 =>
kPtr v23 fun l24 o24 =>
kLd g2 l24 (o24 + 3) fun v25 =>
kIndexAddr v20 v7 11 fun v26 =>
kPtr v26 fun l27 o27 =>
kSt g2 l27 (o27 + 10) v25 fun g3 =>
aRet K (.tuple #[]) g3 n7) (
aRet K (.tuple #[]) g1 n7)

theorem bellowsref05_Array_Touch_eq (C : CT) (a0 a1 : Value) (g : G) (n : Nat) (K : Cont) : bellowsref05_Array_Touch C a0 a1 g n K = abody Try.prog C bellowsref05_Array_Touch_id [a0, a1] g n K := by kernel_rfl

/- (*bellows/bellowsref05.Array).Drop -/
def bellowsref05_Array_Drop (C : CT) (a0 a1 : Value) (g : G) (n : Nat) (K : Cont) : Prop :=
C bellowsref05_Array_At_id [a0, a1] g n fun v8 g1 n8 =>
kBin .int .lss v8 (.int .i64 0) fun v10 =>
kSplit v10 (
aRet K (.bool false) g1 n8) (
kNil a0 fun v12 =>
kPtr v12 fun l13 o13 =>
kLd g1 l13 (o13 + 2) fun v14 =>
kFill [(.int .i64 0), (.int .i64 0), (.int .u64 0), (.int .u64 0), (.int .u64 0), (.int .u64 0), (.int .u64 0), (.int .u64 0), (.int .u64 0), (.int .u64 0), (.int .i64 0)] [] fun c16 =>
kIndexAddr v14 v8 11 fun v17 =>
kPtr v17 fun lg2 og2 =>
kAgg (.agg c16.toArray) fun cg2 =>
cg2.length = 11 ∧ kStN g1 lg2 og2 cg2 fun g2 =>
aRet K (.bool true) g2 n8)

theorem bellowsref05_Array_Drop_eq (C : CT) (a0 a1 : Value) (g : G) (n : Nat) (K : Cont) : bellowsref05_Array_Drop C a0 a1 g n K = abody Try.prog C bellowsref05_Array_Drop_id [a0, a1] g n K := by kernel_rfl

/- (*bellows/bellowsref05.Array).At -/
def bellowsref05_Array_At_l1 (C : CT) (K : Cont) (I_l1 : ECont) (t : Env) (g : G) (n : Nat) : Prop :=
kNil (t 0) fun v8 =>
kPtr v8 fun l9 o9 =>
kLd g l9 (o9 + 2) fun v10 =>
kLen v10 fun v11 =>
kBin .int .lss (t 5) v11 fun v12 =>
kSplit v12 (
kNil (t 0) fun v16 =>
kPtr v16 fun l17 o17 =>
kLd g l17 (o17 + 2) fun v18 =>
kIndexAddr v18 (t 5) 11 fun v20 =>
kPtr v20 fun l21 o21 =>
kLd g l21 (o21 + 0) fun v22 =>
kBin .int .neq v22 (.int .i64 0) fun v23 =>
kSplit v23 (
kNil (t 0) fun v26 =>
kPtr v26 fun l27 o27 =>
kLd g l27 (o27 + 2) fun v28 =>
kIndexAddr v28 (t 5) 11 fun v30 =>
kPtr v30 fun l31 o31 =>
kLd g l31 (o31 + 1) fun v32 =>
kBin .int .eql v32 (t 1) fun v34 =>
kSplit v34 (
aRet K (t 5) g n) (
kBin .int .add (t 5) (.int .i64 1) fun v14 =>
I_l1 (puts t [(6, (t 5)), (7, (t 0)), (8, v8), (9, (ptr l9 (o9 + 2))), (10, v10), (11, v11), (12, v12), (15, (t 0)), (16, v16), (17, (ptr l17 (o17 + 2))), (18, v18), (19, (t 5)), (20, v20), (21, (ptr l21 (o21 + 0))), (22, v22), (23, v23), (24, (.bool true)), (25, (t 0)), (26, v26), (27, (ptr l27 (o27 + 2))), (28, v28), (29, (t 5)), (30, v30), (31, (ptr l31 (o31 + 1))), (32, v32), (33, (t 1)), (34, v34), (35, v34), (13, (t 5)), (14, v14), (5, v14)]) g n)) (
kBin .int .add (t 5) (.int .i64 1) fun v14 =>
I_l1 (puts t [(6, (t 5)), (7, (t 0)), (8, v8), (9, (ptr l9 (o9 + 2))), (10, v10), (11, v11), (12, v12), (15, (t 0)), (16, v16), (17, (ptr l17 (o17 + 2))), (18, v18), (19, (t 5)), (20, v20), (21, (ptr l21 (o21 + 0))), (22, v22), (23, v23), (24, (.bool false)), (25, undef), (26, undef), (27, undef), (28, undef), (29, undef), (30, undef), (31, undef), (32, undef), (33, undef), (34, undef), (35, (.bool false)), (13, (t 5)), (14, v14), (5, v14)]) g n)) (
aRet K (.int .i64 (-1)) g n)

def bellowsref05_Array_At (C : CT) (a0 a1 : Value) (g : G) (n : Nat) (K : Cont) : Prop :=
lfp (bellowsref05_Array_At_l1 C K) (puts (args0 [a0, a1]) [(4, (.int .i64 0)), (5, (.int .i64 0))]) g n

theorem bellowsref05_Array_At_eq (C : CT) (a0 a1 : Value) (g : G) (n : Nat) (K : Cont) : bellowsref05_Array_At C a0 a1 g n K = abody Try.prog C bellowsref05_Array_At_id [a0, a1] g n K := by kernel_rfl

/- bellows/bellowslaw05.Same -/
def bellowslaw05_Same_l1 (C : CT) (K : Cont) (I_l1 : ECont) (t : Env) (g : G) (n : Nat) : Prop :=
kLen (t 0) fun v13 =>
kBin .int .lss (t 5) v13 fun v14 =>
kSplit v14 (
kIndexAddr (t 0) (t 5) 11 fun v19 =>
kPtr v19 fun l20 o20 =>
kLd g l20 (o20 + 0) fun v21 =>
kIndexAddr (t 1) (t 5) 11 fun v24 =>
kPtr v24 fun l25 o25 =>
kLd g l25 (o25 + 0) fun v26 =>
kBin .int .neq v21 v26 fun v27 =>
kSplit v27 (
aRet K (.bool false) g n) (
kIndexAddr (t 0) (t 5) 11 fun v31 =>
kPtr v31 fun l32 o32 =>
kLd g l32 (o32 + 1) fun v33 =>
kIndexAddr (t 1) (t 5) 11 fun v36 =>
kPtr v36 fun l37 o37 =>
kLd g l37 (o37 + 1) fun v38 =>
kBin .int .neq v33 v38 fun v39 =>
kSplit v39 (
aRet K (.bool false) g n) (
kIndexAddr (t 0) (t 5) 11 fun v44 =>
kPtr v44 fun l45 o45 =>
kLdN g l45 (o45 + 2) 8 fun c46 =>
kIndexAddr (t 1) (t 5) 11 fun v49 =>
kPtr v49 fun l50 o50 =>
kLdN g l50 (o50 + 2) 8 fun c51 =>
kBin (.agg [.i, .i, .i, .i, .i, .i, .i, .i]) .neq (.agg c46.toArray) (.agg c51.toArray) fun v52 =>
kSplit v52 (
aRet K (.bool false) g n) (
kIndexAddr (t 0) (t 5) 11 fun v57 =>
kPtr v57 fun l58 o58 =>
kLd g l58 (o58 + 10) fun v59 =>
kIndexAddr (t 1) (t 5) 11 fun v62 =>
kPtr v62 fun l63 o63 =>
kLd g l63 (o63 + 10) fun v64 =>
kBin .int .neq v59 v64 fun v65 =>
kSplit v65 (
aRet K (.bool false) g n) (
kBin .int .add (t 5) (.int .i64 1) fun v16 =>
I_l1 (puts t [(11, (t 5)), (12, (t 0)), (13, v13), (14, v14), (17, (t 0)), (18, (t 5)), (19, v19), (20, (ptr l20 (o20 + 0))), (21, v21), (22, (t 1)), (23, (t 5)), (24, v24), (25, (ptr l25 (o25 + 0))), (26, v26), (27, v27), (28, (.bool false)), (29, (t 0)), (30, (t 5)), (31, v31), (32, (ptr l32 (o32 + 1))), (33, v33), (34, (t 1)), (35, (t 5)), (36, v36), (37, (ptr l37 (o37 + 1))), (38, v38), (39, v39), (40, v39), (41, (.bool false)), (42, (t 0)), (43, (t 5)), (44, v44), (45, (ptr l45 (o45 + 2))), (46, (.agg c46.toArray)), (47, (t 1)), (48, (t 5)), (49, v49), (50, (ptr l50 (o50 + 2))), (51, (.agg c51.toArray)), (52, v52), (53, v52), (54, (.bool false)), (55, (t 0)), (56, (t 5)), (57, v57), (58, (ptr l58 (o58 + 10))), (59, v59), (60, (t 1)), (61, (t 5)), (62, v62), (63, (ptr l63 (o63 + 10))), (64, v64), (65, v65), (66, v65), (15, (t 5)), (16, v16), (5, v16)]) g n))))) (
aRet K (.bool true) g n)

def bellowslaw05_Same (C : CT) (a0 a1 : Value) (g : G) (n : Nat) (K : Cont) : Prop :=
kLen a0 fun v7 =>
kLen a1 fun v9 =>
kBin .int .neq v7 v9 fun v10 =>
kSplit v10 (
aRet K (.bool false) g n) (
lfp (bellowslaw05_Same_l1 C K) (puts (args0 [a0, a1]) [(4, (.bool false)), (6, a0), (7, v7), (8, a1), (9, v9), (10, v10), (5, (.int .i64 0))]) g n)

theorem bellowslaw05_Same_eq (C : CT) (a0 a1 : Value) (g : G) (n : Nat) (K : Cont) : bellowslaw05_Same C a0 a1 g n K = abody Try.prog C bellowslaw05_Same_id [a0, a1] g n K := by kernel_rfl

/- (*bellows/bellowsref05.Array).Free -/
def bellowsref05_Array_Free_l1 (C : CT) (K : Cont) (I_l1 : ECont) (t : Env) (g : G) (n : Nat) : Prop :=
kNil (t 0) fun v14 =>
kPtr v14 fun l15 o15 =>
kLd g l15 (o15 + 1) fun v16 =>
C bellowsref05_Array_first_id [(t 0), (t 1)] g n fun v12 g2 n12 =>
(kPtr (ptr l15 (o15 + 1)) fun l _ => g2 l = g l) ∧ kBin .int .add v12 v16 fun v17 =>
kBin .int .lss (t 5) v17 fun v18 =>
kSplit v18 (
kNil (t 0) fun v22 =>
kPtr v22 fun l23 o23 =>
kLd g2 l23 (o23 + 2) fun v24 =>
kIndexAddr v24 (t 5) 11 fun v26 =>
kPtr v26 fun l27 o27 =>
kLd g2 l27 (o27 + 0) fun v28 =>
kBin .int .eql v28 (.int .i64 0) fun v29 =>
kSplit v29 (
aRet K (t 5) g2 n12) (
kBin .int .add (t 5) (.int .i64 1) fun v20 =>
I_l1 (puts t [(9, (t 5)), (10, (t 0)), (11, (t 1)), (13, (t 0)), (14, v14), (15, (ptr l15 (o15 + 1))), (16, v16), (12, v12), (17, v17), (18, v18), (21, (t 0)), (22, v22), (23, (ptr l23 (o23 + 2))), (24, v24), (25, (t 5)), (26, v26), (27, (ptr l27 (o27 + 0))), (28, v28), (29, v29), (19, (t 5)), (20, v20), (5, v20)]) g2 n12)) (
aRet K (.int .i64 (-1)) g2 n12)

def bellowsref05_Array_Free (C : CT) (a0 a1 : Value) (g : G) (n : Nat) (K : Cont) : Prop :=
C bellowsref05_Array_first_id [a0, a1] g n fun v8 g1 n8 =>
lfp (bellowsref05_Array_Free_l1 C K) (puts (args0 [a0, a1]) [(4, (.int .i64 0)), (6, a0), (7, a1), (8, v8), (5, v8)]) g1 n8

theorem bellowsref05_Array_Free_eq (C : CT) (a0 a1 : Value) (g : G) (n : Nat) (K : Cont) : bellowsref05_Array_Free C a0 a1 g n K = abody Try.prog C bellowsref05_Array_Free_id [a0, a1] g n K := by kernel_rfl

/- (*bellows/bellowsref05.Array).Victim -/
def bellowsref05_Array_Victim_j2 (C : CT) (K : Cont) (I_l1 : ECont) (t : Env) (g : G) (n : Nat) : Prop :=
kBin .int .add (t 6) (.int .i64 1) fun v21 =>
I_l1 (puts t [(20, (t 6)), (21, v21), (6, v21)]) g n

def bellowsref05_Array_Victim_j3 (C : CT) (K : Cont) (t : Env) (g : G) (n : Nat) : Prop :=
kBin .int .lss (t 5) (.int .i64 0) fun v56 =>
kSplit v56 (
aRet K (.int .i64 (-1)) g n) (
kNil (t 0) fun v58 =>
kPtr v58 fun l59 o59 =>
kLd g l59 (o59 + 2) fun v60 =>
kIndexAddr v60 (t 5) 11 fun v62 =>
kPtr v62 fun l63 o63 =>
kLd g l63 (o63 + 1) fun v64 =>
aRet K v64 g n)

def bellowsref05_Array_Victim_l1 (C : CT) (K : Cont) (I_l1 : ECont) (t : Env) (g : G) (n : Nat) : Prop :=
kNil (t 0) fun v15 =>
kPtr v15 fun l16 o16 =>
kLd g l16 (o16 + 1) fun v17 =>
C bellowsref05_Array_first_id [(t 0), (t 1)] g n fun v13 g2 n13 =>
(kPtr (ptr l16 (o16 + 1)) fun l _ => g2 l = g l) ∧ kBin .int .add v13 v17 fun v18 =>
kBin .int .lss (t 6) v18 fun v19 =>
kSplit v19 (
kNil (t 0) fun v23 =>
kPtr v23 fun l24 o24 =>
kLd g2 l24 (o24 + 2) fun v25 =>
kIndexAddr v25 (t 6) 11 fun v27 =>
kPtr v27 fun l28 o28 =>
kLd g2 l28 (o28 + 0) fun v29 =>
C bellowsref05_rest_id [v29] g2 n13 fun v30 g3 n30 =>
kSplit v30 (
kBin .int .lss (t 5) (.int .i64 0) fun v33 =>
kSplit v33 (
bellowsref05_Array_Victim_j2 C K I_l1 (puts t [(10, (t 6)), (11, (t 0)), (12, (t 1)), (14, (t 0)), (15, v15), (16, (ptr l16 (o16 + 1))), (17, v17), (13, v13), (18, v18), (19, v19), (22, (t 0)), (23, v23), (24, (ptr l24 (o24 + 2))), (25, v25), (26, (t 6)), (27, v27), (28, (ptr l28 (o28 + 0))), (29, v29), (30, v30), (31, (.bool true)), (32, (t 5)), (33, v33), (34, (.bool true)), (35, undef), (36, undef), (37, undef), (38, undef), (39, undef), (40, undef), (41, undef), (42, undef), (43, undef), (44, undef), (45, undef), (46, undef), (47, undef), (48, undef), (49, undef), (50, undef), (51, undef), (52, (.bool true)), (53, (.bool true)), (54, (t 6)), (5, (t 6))]) g3 n30) (
kNil (t 0) fun v36 =>
kPtr v36 fun l37 o37 =>
kLd g3 l37 (o37 + 2) fun v38 =>
kIndexAddr v38 (t 6) 11 fun v40 =>
kPtr v40 fun l41 o41 =>
kLd g3 l41 (o41 + 10) fun v42 =>
kNil (t 0) fun v44 =>
kPtr v44 fun l45 o45 =>
kLd g3 l45 (o45 + 2) fun v46 =>
kIndexAddr v46 (t 5) 11 fun v48 =>
kPtr v48 fun l49 o49 =>
kLd g3 l49 (o49 + 10) fun v50 =>
kBin .int .lss v42 v50 fun v51 =>
kSplit v51 (
bellowsref05_Array_Victim_j2 C K I_l1 (puts t [(10, (t 6)), (11, (t 0)), (12, (t 1)), (14, (t 0)), (15, v15), (16, (ptr l16 (o16 + 1))), (17, v17), (13, v13), (18, v18), (19, v19), (22, (t 0)), (23, v23), (24, (ptr l24 (o24 + 2))), (25, v25), (26, (t 6)), (27, v27), (28, (ptr l28 (o28 + 0))), (29, v29), (30, v30), (31, (.bool true)), (32, (t 5)), (33, v33), (34, (.bool false)), (35, (t 0)), (36, v36), (37, (ptr l37 (o37 + 2))), (38, v38), (39, (t 6)), (40, v40), (41, (ptr l41 (o41 + 10))), (42, v42), (43, (t 0)), (44, v44), (45, (ptr l45 (o45 + 2))), (46, v46), (47, (t 5)), (48, v48), (49, (ptr l49 (o49 + 10))), (50, v50), (51, v51), (52, v51), (53, v51), (54, (t 6)), (5, (t 6))]) g3 n30) (
bellowsref05_Array_Victim_j2 C K I_l1 (puts t [(10, (t 6)), (11, (t 0)), (12, (t 1)), (14, (t 0)), (15, v15), (16, (ptr l16 (o16 + 1))), (17, v17), (13, v13), (18, v18), (19, v19), (22, (t 0)), (23, v23), (24, (ptr l24 (o24 + 2))), (25, v25), (26, (t 6)), (27, v27), (28, (ptr l28 (o28 + 0))), (29, v29), (30, v30), (31, (.bool true)), (32, (t 5)), (33, v33), (34, (.bool false)), (35, (t 0)), (36, v36), (37, (ptr l37 (o37 + 2))), (38, v38), (39, (t 6)), (40, v40), (41, (ptr l41 (o41 + 10))), (42, v42), (43, (t 0)), (44, v44), (45, (ptr l45 (o45 + 2))), (46, v46), (47, (t 5)), (48, v48), (49, (ptr l49 (o49 + 10))), (50, v50), (51, v51), (52, v51), (53, v51)]) g3 n30))) (
bellowsref05_Array_Victim_j2 C K I_l1 (puts t [(10, (t 6)), (11, (t 0)), (12, (t 1)), (14, (t 0)), (15, v15), (16, (ptr l16 (o16 + 1))), (17, v17), (13, v13), (18, v18), (19, v19), (22, (t 0)), (23, v23), (24, (ptr l24 (o24 + 2))), (25, v25), (26, (t 6)), (27, v27), (28, (ptr l28 (o28 + 0))), (29, v29), (30, v30), (31, (.bool false)), (32, undef), (33, undef), (34, undef), (35, undef), (36, undef), (37, undef), (38, undef), (39, undef), (40, undef), (41, undef), (42, undef), (43, undef), (44, undef), (45, undef), (46, undef), (47, undef), (48, undef), (49, undef), (50, undef), (51, undef), (52, undef), (53, (.bool false))]) g3 n30)) (
bellowsref05_Array_Victim_j3 C K (puts t [(10, (t 6)), (11, (t 0)), (12, (t 1)), (14, (t 0)), (15, v15), (16, (ptr l16 (o16 + 1))), (17, v17), (13, v13), (18, v18), (19, v19)]) g2 n13)

def bellowsref05_Array_Victim (C : CT) (a0 a1 : Value) (g : G) (n : Nat) (K : Cont) : Prop :=
C bellowsref05_Array_first_id [a0, a1] g n fun v9 g1 n9 =>
lfp (bellowsref05_Array_Victim_l1 C K) (puts (args0 [a0, a1]) [(4, (.int .i64 0)), (5, (.int .i64 (-1))), (7, a0), (8, a1), (9, v9), (6, v9)]) g1 n9

theorem bellowsref05_Array_Victim_eq (C : CT) (a0 a1 : Value) (g : G) (n : Nat) (K : Cont) : bellowsref05_Array_Victim C a0 a1 g n K = abody Try.prog C bellowsref05_Array_Victim_id [a0, a1] g n K := by kernel_rfl

/- (*bellows/array.Array).Slots -/
def array_Array_Slots (C : CT) (a0 : Value) (g : G) (n : Nat) (K : Cont) : Prop :=
kBin .ptr .eql a0 (.pointer none) fun v4 =>
kSplit v4 (
aRet K (.slice none 0 0) g n) (
kNil a0 fun v6 =>
kPtr v6 fun l7 o7 =>
kLd g l7 (o7 + 2) fun v8 =>
C slices_Clone_array_Slot_array_Slot_id [v8] g n fun v9 g1 n9 =>
C slices_DeleteFunc_array_Slot_array_Slot_id [v9, (.func (.func array_empty_id) #[] #[])] g1 n9 fun v10 g2 n10 =>
aRet K v10 g2 n10)

theorem array_Array_Slots_eq (C : CT) (a0 : Value) (g : G) (n : Nat) (K : Cont) : array_Array_Slots C a0 g n K = abody Try.prog C array_Array_Slots_id [a0] g n K := by kernel_rfl

/- (*bellows/bellowsref05.Array).Slots -/
def bellowsref05_Array_Slots_j2 (C : CT) (K : Cont) (I_l1 : ECont) (t : Env) (g : G) (n : Nat) : Prop :=
kBin .int .add (t 4) (.int .i64 1) fun v13 =>
I_l1 (puts t [(12, (t 4)), (13, v13), (4, v13)]) g n

def bellowsref05_Array_Slots_l1 (C : CT) (K : Cont) (I_l1 : ECont) (t : Env) (g : G) (n : Nat) : Prop :=
kNil (t 0) fun v7 =>
kPtr v7 fun l8 o8 =>
kLd g l8 (o8 + 2) fun v9 =>
kLen v9 fun v10 =>
kBin .int .lss (t 4) v10 fun v11 =>
kSplit v11 (
kNil (t 0) fun v15 =>
kPtr v15 fun l16 o16 =>
kLd g l16 (o16 + 2) fun v17 =>
kIndexAddr v17 (t 4) 11 fun v19 =>
kPtr v19 fun l20 o20 =>
kLd g l20 (o20 + 0) fun v21 =>
kBin .int .neq v21 (.int .i64 0) fun v22 =>
kSplit v22 (
kNil (t 0) fun v25 =>
kPtr v25 fun l26 o26 =>
kLd g l26 (o26 + 2) fun v27 =>
kIndexAddr v27 (t 4) 11 fun v29 =>
kPtr v29 fun l30 o30 =>
kLdN g l30 o30 11 fun c30 =>
kFill (reps 1 [(.int .i64 0), (.int .i64 0), (.int .u64 0), (.int .u64 0), (.int .u64 0), (.int .u64 0), (.int .u64 0), (.int .u64 0), (.int .u64 0), (.int .u64 0), (.int .i64 0)]) [(0, (some 11), (.agg c30.toArray))] fun c31 =>
kNew c31 .exact g n fun l31 g1 n31 =>
kAppend (t 3) (.slice (some ⟨l31, 0, none⟩) 1 1) 11 88 g1 n31 fun v32 g2 n32 =>
bellowsref05_Array_Slots_j2 C K I_l1 (puts t [(5, (t 4)), (6, (t 0)), (7, v7), (8, (ptr l8 (o8 + 2))), (9, v9), (10, v10), (11, v11), (14, (t 0)), (15, v15), (16, (ptr l16 (o16 + 2))), (17, v17), (18, (t 4)), (19, v19), (20, (ptr l20 (o20 + 0))), (21, v21), (22, v22), (23, (t 3)), (24, (t 0)), (25, v25), (26, (ptr l26 (o26 + 2))), (27, v27), (28, (t 4)), (29, v29), (30, (.agg c30.toArray)), (31, (.slice (some ⟨l31, 0, none⟩) 1 1)), (32, v32), (3, v32)]) g2 n32) (
bellowsref05_Array_Slots_j2 C K I_l1 (puts t [(5, (t 4)), (6, (t 0)), (7, v7), (8, (ptr l8 (o8 + 2))), (9, v9), (10, v10), (11, v11), (14, (t 0)), (15, v15), (16, (ptr l16 (o16 + 2))), (17, v17), (18, (t 4)), (19, v19), (20, (ptr l20 (o20 + 0))), (21, v21), (22, v22)]) g n)) (
aRet K (t 3) g n)

def bellowsref05_Array_Slots (C : CT) (a0 : Value) (g : G) (n : Nat) (K : Cont) : Prop :=
lfp (bellowsref05_Array_Slots_l1 C K) (puts (args0 [a0]) [(2, (.slice none 0 0)), (3, (.slice none 0 0)), (4, (.int .i64 0))]) g n

theorem bellowsref05_Array_Slots_eq (C : CT) (a0 : Value) (g : G) (n : Nat) (K : Cont) : bellowsref05_Array_Slots C a0 g n K = abody Try.prog C bellowsref05_Array_Slots_id [a0] g n K := by kernel_rfl

/- bellows/bellowsref04.Set -/
def bellowsref04_Set (C : CT) (a0 a1 : Value) (g : G) (n : Nat) (K : Cont) : Prop :=
kBin .int .neq a0 (.int .i64 1) fun v6 =>
kSplit v6 (
kBin .int .neq a0 (.int .i64 2) fun v9 =>
kSplit v9 (
kBin .int .neq a0 (.int .i64 4) fun v13 =>
kSplit v13 (
kBin .int .neq a0 (.int .i64 8) fun v17 =>
kSplit v17 (
aRet K (.int .i64 0) g n) (
kBin .int .lss a1 (.int .i64 0) fun v21 =>
kSplit v21 (
aRet K (.int .i64 0) g n) (
kBin .int .rem a1 a0 fun v25 =>
aRet K v25 g n))) (
kBin .int .lss a1 (.int .i64 0) fun v21 =>
kSplit v21 (
aRet K (.int .i64 0) g n) (
kBin .int .rem a1 a0 fun v25 =>
aRet K v25 g n))) (
kBin .int .lss a1 (.int .i64 0) fun v21 =>
kSplit v21 (
aRet K (.int .i64 0) g n) (
kBin .int .rem a1 a0 fun v25 =>
aRet K v25 g n))) (
kBin .int .lss a1 (.int .i64 0) fun v21 =>
kSplit v21 (
aRet K (.int .i64 0) g n) (
kBin .int .rem a1 a0 fun v25 =>
aRet K v25 g n))

theorem bellowsref04_Set_eq (C : CT) (a0 a1 : Value) (g : G) (n : Nat) (K : Cont) : bellowsref04_Set C a0 a1 g n K = abody Try.prog C bellowsref04_Set_id [a0, a1] g n K := by kernel_rfl

/- bellows/bellowskeep.Mod -/
def bellowskeep_Mod (C : CT) (a0 a1 : Value) (g : G) (n : Nat) (K : Cont) : Prop :=
kBin .int .lss a1 (.int .i64 1) fun v6 =>
kSplit v6 (
aRet K (.int .i64 0) g n) (
kBin .int .rem a0 a1 fun v9 =>
kBin .int .add v9 a1 fun v11 =>
kBin .int .rem v11 a1 fun v13 =>
aRet K v13 g n)

theorem bellowskeep_Mod_eq (C : CT) (a0 a1 : Value) (g : G) (n : Nat) (K : Cont) : bellowskeep_Mod C a0 a1 g n K = abody Try.prog C bellowskeep_Mod_id [a0, a1] g n K := by kernel_rfl

/- bellows/trace.Stores -/
def trace_Stores (C : CT) (a0 a1 a2 : Value) (g : G) (n : Nat) (K : Cont) : Prop :=
isCell a1 = true ∧ kNew [a1] .exact g n fun l4 g1 n4 =>
isCell a2 = true ∧ kNew [a2] .exact g1 n4 fun l5 g2 n5 =>
C trace_chosen_api_Event_uint64_id [a0, (.func (.func trace_Stores_1_id) #[] #[(ptr l4 0), (ptr l5 0)]), (.func (.func trace_val_id) #[] #[])] g2 n5 fun v9 g3 n9 =>
aRet K v9 g3 n9

theorem trace_Stores_eq (C : CT) (a0 a1 a2 : Value) (g : G) (n : Nat) (K : Cont) : trace_Stores C a0 a1 a2 g n K = abody Try.prog C trace_Stores_id [a0, a1, a2] g n K := by kernel_rfl

/- bellows/trace.chosen[bellows/api.Event,bellows/api.Event] -/
def trace_chosen_api_Event_api_Event_l1 (C : CT) (K : Cont) (I_l1 : ECont) (t : Env) (g : G) (n : Nat) : Prop :=
kBin .int .lss (t 12) (t 11) fun v13 =>
kSplit v13 (
kIndexAddr (t 10) (t 12) 5 fun v14 =>
kPtr v14 fun l15 o15 =>
kLdN g l15 o15 5 fun c15 =>
kNew [(.int .i64 0), (.int .i64 0), (.int .i64 0), (.int .i64 0), (.int .u64 0)] .exact g n fun l9 g1 n9 =>
kAgg (.agg c15.toArray) fun cg2 =>
cg2.length = 5 ∧ kStN g1 l9 0 cg2 fun g2 =>
kLdN g2 l9 0 5 fun c17 =>
kCall C (t 1) [(.agg c17.toArray)] g2 n9 fun v18 g3 n18 =>
kSplit v18 (
kLdN g3 l9 0 5 fun c21 =>
kCall C (t 2) [(.agg c21.toArray)] g3 n18 fun v22 g4 n22 =>
kFill (reps 1 [(.int .i64 0), (.int .i64 0), (.int .i64 0), (.int .i64 0), (.int .u64 0)]) [(0, (some 5), v22)] fun c23 =>
kNew c23 .exact g4 n22 fun l23 g5 n23 =>
kAppend (t 7) (.slice (some ⟨l23, 0, none⟩) 1 1) 5 40 g5 n23 fun v24 g6 n24 =>
kBin .int .add (t 12) (.int .i64 1) fun v25 =>
I_l1 (puts t [(13, v13), (14, v14), (15, (.agg c15.toArray)), (9, (ptr l9 0)), (16, (t 1)), (17, (.agg c17.toArray)), (18, v18), (19, (t 7)), (20, (t 2)), (21, (.agg c21.toArray)), (22, v22), (23, (.slice (some ⟨l23, 0, none⟩) 1 1)), (24, v24), (7, v24), (25, v25), (12, v25)]) g6 n24) (
kBin .int .add (t 12) (.int .i64 1) fun v25 =>
I_l1 (puts t [(13, v13), (14, v14), (15, (.agg c15.toArray)), (9, (ptr l9 0)), (16, (t 1)), (17, (.agg c17.toArray)), (18, v18), (25, v25), (12, v25)]) g3 n18)) (
aRet K (t 7) g n)

def trace_chosen_api_Event_api_Event (C : CT) (a0 a1 a2 : Value) (g : G) (n : Nat) (K : Cont) : Prop :=
kLen a0 fun v11 =>
lfp (trace_chosen_api_Event_api_Event_l1 C K) (puts (args0 [a0, a1, a2]) [(6, (.slice none 0 0)), (7, (.slice none 0 0)), (10, a0), (11, v11), (12, (.int .i64 0))]) g n

theorem trace_chosen_api_Event_api_Event_eq (C : CT) (a0 a1 a2 : Value) (g : G) (n : Nat) (K : Cont) : trace_chosen_api_Event_api_Event C a0 a1 a2 g n K = abody Try.prog C trace_chosen_api_Event_api_Event_id [a0, a1, a2] g n K := by kernel_rfl

/- bellows/trace.Of$1 -/
def trace_Of_1 (C : CT) (a0 a1 a2 : Value) (g : G) (n : Nat) (K : Cont) : Prop :=
kAgg a0 fun c3 =>
kNew c3 .exact g n fun l3 g1 n3 =>
kPtr a1 fun l5 o5 =>
kLd g1 l5 o5 fun v5 =>
kBin .int .eql v5 (.int .i64 0) fun v6 =>
kSplit v6 (
kPtr a2 fun l14 o14 =>
kLd g1 l14 o14 fun v14 =>
kBin .int .eql v14 (.int .i64 (-1)) fun v15 =>
kSplit v15 (
aRet K (.bool true) g1 n3) (
kLd g1 l3 (0 + 1) fun v18 =>
kPtr a2 fun l19 o19 =>
kLd g1 l19 o19 fun v19 =>
kBin .int .eql v18 v19 fun v20 =>
aRet K v20 g1 n3)) (
kLd g1 l3 (0 + 0) fun v9 =>
kPtr a1 fun l10 o10 =>
kLd g1 l10 o10 fun v10 =>
kBin .int .eql v9 v10 fun v11 =>
kSplit v11 (
kPtr a2 fun l14 o14 =>
kLd g1 l14 o14 fun v14 =>
kBin .int .eql v14 (.int .i64 (-1)) fun v15 =>
kSplit v15 (
aRet K (.bool true) g1 n3) (
kLd g1 l3 (0 + 1) fun v18 =>
kPtr a2 fun l19 o19 =>
kLd g1 l19 o19 fun v19 =>
kBin .int .eql v18 v19 fun v20 =>
aRet K v20 g1 n3)) (
aRet K (.bool false) g1 n3))

theorem trace_Of_1_eq (C : CT) (a0 a1 a2 : Value) (g : G) (n : Nat) (K : Cont) : trace_Of_1 C a0 a1 a2 g n K = abody Try.prog C trace_Of_1_id [a0, a1, a2] g n K := by kernel_rfl

/- bellows/trace.itself -/
def trace_itself (C : CT) (a0 : Value) (g : G) (n : Nat) (K : Cont) : Prop :=
kAgg a0 fun c1 =>
kNew c1 .exact g n fun l1 g1 n1 =>
kNew [(.int .i64 0), (.int .i64 0), (.int .i64 0), (.int .i64 0), (.int .u64 0)] .exact g1 n1 fun l2 g2 n2 =>
kLdN g2 l1 0 5 fun c3 =>
kAgg (.agg c3.toArray) fun cg3 =>
cg3.length = 5 ∧ kStN g2 l2 0 cg3 fun g3 =>
kLdN g3 l2 0 5 fun r0 =>
aRet K (.agg r0.toArray) g3 n2

theorem trace_itself_eq (C : CT) (a0 : Value) (g : G) (n : Nat) (K : Cont) : trace_itself C a0 g n K = abody Try.prog C trace_itself_id [a0] g n K := by kernel_rfl

/- bellows/trace.chosen[bellows/api.Event,uint64] -/
def trace_chosen_api_Event_uint64_l1 (C : CT) (K : Cont) (I_l1 : ECont) (t : Env) (g : G) (n : Nat) : Prop :=
kBin .int .lss (t 12) (t 11) fun v13 =>
kSplit v13 (
kIndexAddr (t 10) (t 12) 5 fun v14 =>
kPtr v14 fun l15 o15 =>
kLdN g l15 o15 5 fun c15 =>
kNew [(.int .i64 0), (.int .i64 0), (.int .i64 0), (.int .i64 0), (.int .u64 0)] .exact g n fun l9 g1 n9 =>
kAgg (.agg c15.toArray) fun cg2 =>
cg2.length = 5 ∧ kStN g1 l9 0 cg2 fun g2 =>
kLdN g2 l9 0 5 fun c17 =>
kCall C (t 1) [(.agg c17.toArray)] g2 n9 fun v18 g3 n18 =>
kSplit v18 (
kLdN g3 l9 0 5 fun c21 =>
kCall C (t 2) [(.agg c21.toArray)] g3 n18 fun v22 g4 n22 =>
kFill (reps 1 [(.int .u64 0)]) [(0, none, v22)] fun c23 =>
kNew c23 .exact g4 n22 fun l23 g5 n23 =>
kAppend (t 7) (.slice (some ⟨l23, 0, none⟩) 1 1) 1 8 g5 n23 fun v24 g6 n24 =>
kBin .int .add (t 12) (.int .i64 1) fun v25 =>
I_l1 (puts t [(13, v13), (14, v14), (15, (.agg c15.toArray)), (9, (ptr l9 0)), (16, (t 1)), (17, (.agg c17.toArray)), (18, v18), (19, (t 7)), (20, (t 2)), (21, (.agg c21.toArray)), (22, v22), (23, (.slice (some ⟨l23, 0, none⟩) 1 1)), (24, v24), (7, v24), (25, v25), (12, v25)]) g6 n24) (
kBin .int .add (t 12) (.int .i64 1) fun v25 =>
I_l1 (puts t [(13, v13), (14, v14), (15, (.agg c15.toArray)), (9, (ptr l9 0)), (16, (t 1)), (17, (.agg c17.toArray)), (18, v18), (25, v25), (12, v25)]) g3 n18)) (
aRet K (t 7) g n)

def trace_chosen_api_Event_uint64 (C : CT) (a0 a1 a2 : Value) (g : G) (n : Nat) (K : Cont) : Prop :=
kLen a0 fun v11 =>
lfp (trace_chosen_api_Event_uint64_l1 C K) (puts (args0 [a0, a1, a2]) [(6, (.slice none 0 0)), (7, (.slice none 0 0)), (10, a0), (11, v11), (12, (.int .i64 0))]) g n

theorem trace_chosen_api_Event_uint64_eq (C : CT) (a0 a1 a2 : Value) (g : G) (n : Nat) (K : Cont) : trace_chosen_api_Event_uint64 C a0 a1 a2 g n K = abody Try.prog C trace_chosen_api_Event_uint64_id [a0, a1, a2] g n K := by kernel_rfl

/- bellows/trace.Tells$1 -/
def trace_Tells_1 (C : CT) (a0 a1 : Value) (g : G) (n : Nat) (K : Cont) : Prop :=
kAgg a0 fun c2 =>
kNew c2 .exact g n fun l2 g1 n2 =>
kLd g1 l2 (0 + 0) fun v5 =>
kBin .int .eql v5 (.int .i64 8) fun v6 =>
kSplit v6 (
kLd g1 l2 (0 + 1) fun v9 =>
kPtr a1 fun l10 o10 =>
kLd g1 l10 o10 fun v10 =>
kBin .int .eql v9 v10 fun v11 =>
aRet K v11 g1 n2) (
aRet K (.bool false) g1 n2)

theorem trace_Tells_1_eq (C : CT) (a0 a1 : Value) (g : G) (n : Nat) (K : Cont) : trace_Tells_1 C a0 a1 g n K = abody Try.prog C trace_Tells_1_id [a0, a1] g n K := by kernel_rfl

/- bellows/trace.val -/
def trace_val (C : CT) (a0 : Value) (g : G) (n : Nat) (K : Cont) : Prop :=
kAgg a0 fun c1 =>
kNew c1 .exact g n fun l1 g1 n1 =>
kLd g1 l1 (0 + 4) fun v4 =>
aRet K v4 g1 n1

theorem trace_val_eq (C : CT) (a0 : Value) (g : G) (n : Nat) (K : Cont) : trace_val C a0 g n K = abody Try.prog C trace_val_id [a0] g n K := by kernel_rfl

/- slices.Equal[[]bellows/api.Event,bellows/api.Event] -/
def slices_Equal_api_Event_api_Event_l1 (C : CT) (K : Cont) (I_l1 : ECont) (t : Env) (g : G) (n : Nat) : Prop :=
kBin .int .lss (t 13) (t 12) fun v14 =>
kSplit v14 (
kIndexAddr (t 0) (t 13) 5 fun v18 =>
kPtr v18 fun l19 o19 =>
kLdN g l19 o19 5 fun c19 =>
kIndexAddr (t 1) (t 13) 5 fun v22 =>
kPtr v22 fun l23 o23 =>
kLdN g l23 o23 5 fun c23 =>
kBin (.agg [.i, .i, .i, .i, .i]) .neq (.agg c19.toArray) (.agg c23.toArray) fun v24 =>
kSplit v24 (
aRet K (.bool false) g n) (
kBin .int .add (t 13) (.int .i64 1) fun v25 =>
I_l1 (puts t [(14, v14), (15, (t 13)), (5, (t 13)), (16, (t 0)), (17, (t 13)), (18, v18), (19, (.agg c19.toArray)), (20, (t 1)), (21, (t 13)), (22, v22), (23, (.agg c23.toArray)), (24, v24), (25, v25), (13, v25)]) g n)) (
aRet K (.bool true) g n)

def slices_Equal_api_Event_api_Event (C : CT) (a0 a1 : Value) (g : G) (n : Nat) (K : Cont) : Prop :=
kLen a0 fun v7 =>
kLen a1 fun v9 =>
kBin .int .neq v7 v9 fun v10 =>
kSplit v10 (
aRet K (.bool false) g n) (
kLen a0 fun v12 =>
lfp (slices_Equal_api_Event_api_Event_l1 C K) (puts (args0 [a0, a1]) [(4, (.bool false)), (6, a0), (7, v7), (8, a1), (9, v9), (10, v10), (11, a0), (12, v12), (13, (.int .i64 0))]) g n)

theorem slices_Equal_api_Event_api_Event_eq (C : CT) (a0 a1 : Value) (g : G) (n : Nat) (K : Cont) : slices_Equal_api_Event_api_Event C a0 a1 g n K = abody Try.prog C slices_Equal_api_Event_api_Event_id [a0, a1] g n K := by kernel_rfl

/- bellows/bellowslaw19.store -/
def bellowslaw19_store (C : CT) (a0 : Value) (g : G) (n : Nat) (K : Cont) : Prop :=
kNew [(.int .i64 0), (.int .i64 0), (.int .i64 0), (.int .i64 0), (.int .u64 0)] .exact g n fun l2 g1 n2 =>
kFill [(.int .i64 0), (.int .i64 0), (.int .i64 0), (.int .i64 0), (.int .u64 0)] [(0, none, (.int .i64 3)), (2, none, (.int .i64 3)), (3, none, (.int .i64 1)), (4, none, a0)] fun c4 =>
kAgg (.agg c4.toArray) fun cg2 =>
cg2.length = 5 ∧ kStN g1 l2 0 cg2 fun g2 =>
kLdN g2 l2 0 5 fun r0 =>
aRet K (.agg r0.toArray) g2 n2

theorem bellowslaw19_store_eq (C : CT) (a0 : Value) (g : G) (n : Nat) (K : Cont) : bellowslaw19_store C a0 g n K = abody Try.prog C bellowslaw19_store_id [a0] g n K := by kernel_rfl

/- bellows/persist.Word -/
def persist_Word (C : CT) (a0 a1 a2 a3 a4 : Value) (g : G) (n : Nat) (K : Cont) : Prop :=
kBin .int .eql a1 a0 fun v13 =>
kSplit v13 (
aRet K (.bool true) g n) (
C trace_Stores_id [a2, a3, a4] g n fun v18 g1 n18 =>
C slices_Contains_uint64_uint64_id [v18, a1] g1 n18 fun v20 g2 n20 =>
aRet K v20 g2 n20)

theorem persist_Word_eq (C : CT) (a0 a1 a2 a3 a4 : Value) (g : G) (n : Nat) (K : Cont) : persist_Word C a0 a1 a2 a3 a4 g n K = abody Try.prog C persist_Word_id [a0, a1, a2, a3, a4] g n K := by kernel_rfl

/- bellows/persist.stores -/
def persist_stores (C : CT) (a0 a1 : Value) (g : G) (n : Nat) (K : Cont) : Prop :=
isCell a1 = true ∧ kNew [a1] .exact g n fun l3 g1 n3 =>
C trace_Of_id [a0, (.int .i64 3), (.int .i64 (-1))] g1 n3 fun v6 g2 n6 =>
C slices_DeleteFunc_api_Event_api_Event_id [v6, (.func (.func persist_stores_1_id) #[] #[(ptr l3 0)])] g2 n6 fun v8 g3 n8 =>
aRet K v8 g3 n8

theorem persist_stores_eq (C : CT) (a0 a1 : Value) (g : G) (n : Nat) (K : Cont) : persist_stores C a0 a1 g n K = abody Try.prog C persist_stores_id [a0, a1] g n K := by kernel_rfl

/- bellows/word.Put -/
def word_Put (C : CT) (a0 a1 a2 : Value) (g : G) (n : Nat) (K : Cont) : Prop :=
kAgg a0 fun c3 =>
kNew c3 .exact g n fun l3 g1 n3 =>
kNew [(.int .u64 0), (.int .u64 0), (.int .u64 0), (.int .u64 0), (.int .u64 0), (.int .u64 0), (.int .u64 0), (.int .u64 0)] .exact g1 n3 fun l6 g2 n6 =>
C word_is_id [a1] g2 n6 fun v8 g3 n8 =>
kSplit v8 (
kIndexArr (ptr l3 0) a1 8 1 fun v11 =>
kPtr v11 fun lg4 og4 =>
kSt g3 lg4 og4 a2 fun g4 =>
kLdN g4 l3 0 8 fun c12 =>
kAgg (.agg c12.toArray) fun cg5 =>
cg5.length = 8 ∧ kStN g4 l6 0 cg5 fun g5 =>
kLdN g5 l6 0 8 fun r0 =>
aRet K (.agg r0.toArray) g5 n8) (
kLdN g3 l3 0 8 fun c12 =>
kAgg (.agg c12.toArray) fun cg6 =>
cg6.length = 8 ∧ kStN g3 l6 0 cg6 fun g6 =>
kLdN g6 l6 0 8 fun r0 =>
aRet K (.agg r0.toArray) g6 n8)

theorem word_Put_eq (C : CT) (a0 a1 a2 : Value) (g : G) (n : Nat) (K : Cont) : word_Put C a0 a1 a2 g n K = abody Try.prog C word_Put_id [a0, a1, a2] g n K := by kernel_rfl

/- slices.Contains[[]bellows/api.Line,bellows/api.Line] -/
def slices_Contains_api_Line_api_Line (C : CT) (a0 a1 : Value) (g : G) (n : Nat) (K : Cont) : Prop :=
kAgg a1 fun c3 =>
kNew c3 .exact g n fun l3 g1 n3 =>
kLdN g1 l3 0 8 fun c6 =>
C slices_Index_api_Line_api_Line_id [a0, (.agg c6.toArray)] g1 n3 fun v7 g2 n7 =>
kBin .int .geq v7 (.int .i64 0) fun v8 =>
aRet K v8 g2 n7

theorem slices_Contains_api_Line_api_Line_eq (C : CT) (a0 a1 : Value) (g : G) (n : Nat) (K : Cont) : slices_Contains_api_Line_api_Line C a0 a1 g n K = abody Try.prog C slices_Contains_api_Line_api_Line_id [a0, a1] g n K := by kernel_rfl

/- (*bellows/array.Array).at -/
def array_Array_at (C : CT) (a0 a1 : Value) (g : G) (n : Nat) (K : Cont) : Prop :=
isCell a1 = true ∧ kNew [a1] .exact g n fun l3 g1 n3 =>
kBin .ptr .eql a0 (.pointer none) fun v6 =>
kSplit v6 (
aRet K (.int .i64 (-1)) g1 n3) (
kLd g1 l3 0 fun v8 =>
kBin .int .lss v8 (.int .i64 0) fun v9 =>
kSplit v9 (
aRet K (.int .i64 (-1)) g1 n3) (
kLd g1 l3 0 fun v12 =>
C array_Array_set_id [a0, v12] g1 n3 fun v13 g2 n13 =>
C slices_IndexFunc_array_Slot_array_Slot_id [v13, (.func (.func array_Array_at_1_id) #[] #[(ptr l3 0)])] g2 n13 fun v15 g3 n15 =>
aRet K v15 g3 n15))

theorem array_Array_at_eq (C : CT) (a0 a1 : Value) (g : G) (n : Nat) (K : Cont) : array_Array_at C a0 a1 g n K = abody Try.prog C array_Array_at_id [a0, a1] g n K := by kernel_rfl

/- (*bellows/array.Array).set -/
def array_Array_set (C : CT) (a0 a1 : Value) (g : G) (n : Nat) (K : Cont) : Prop :=
kNil a0 fun v7 =>
kPtr v7 fun l8 o8 =>
kLd g l8 (o8 + 0) fun v9 =>
kNil a0 fun v13 =>
kPtr v13 fun l14 o14 =>
kLd g l14 (o14 + 1) fun v15 =>
C geom_Set_id [v9, a1] g n fun v11 g1 n11 =>
(kPtr (ptr l14 (o14 + 1)) fun l _ => g1 l = g l) ∧ kBin .int .mul v11 v15 fun v16 =>
kNil a0 fun v18 =>
kPtr v18 fun l19 o19 =>
kLd g1 l19 (o19 + 2) fun v20 =>
kNil a0 fun v24 =>
kPtr v24 fun l25 o25 =>
kLd g1 l25 (o25 + 1) fun v26 =>
kBin .int .add v16 v26 fun v27 =>
kNil a0 fun v30 =>
kPtr v30 fun l31 o31 =>
kLd g1 l31 (o31 + 1) fun v32 =>
kBin .int .add v16 v32 fun v33 =>
kSlice v20 (some v16) (some v27) (some v33) 11 fun v34 =>
aRet K v34 g1 n11

theorem array_Array_set_eq (C : CT) (a0 a1 : Value) (g : G) (n : Nat) (K : Cont) : array_Array_set C a0 a1 g n K = abody Try.prog C array_Array_set_id [a0, a1] g n K := by kernel_rfl

/- slices.IndexFunc[[]bellows/array.Slot,bellows/array.Slot] -/
def slices_IndexFunc_array_Slot_array_Slot_l1 (C : CT) (K : Cont) (I_l1 : ECont) (t : Env) (g : G) (n : Nat) : Prop :=
kBin .int .lss (t 8) (t 7) fun v9 =>
kSplit v9 (
kIndexAddr (t 0) (t 8) 11 fun v14 =>
kPtr v14 fun l15 o15 =>
kLdN g l15 o15 11 fun c15 =>
kCall C (t 1) [(.agg c15.toArray)] g n fun v16 g1 n16 =>
kSplit v16 (
aRet K (t 8) g1 n16) (
kBin .int .add (t 8) (.int .i64 1) fun v18 =>
I_l1 (puts t [(9, v9), (10, (t 8)), (5, (t 8)), (11, (t 1)), (12, (t 0)), (13, (t 8)), (14, v14), (15, (.agg c15.toArray)), (16, v16), (18, v18), (8, v18)]) g1 n16)) (
aRet K (.int .i64 (-1)) g n)

def slices_IndexFunc_array_Slot_array_Slot (C : CT) (a0 a1 : Value) (g : G) (n : Nat) (K : Cont) : Prop :=
kLen a0 fun v7 =>
lfp (slices_IndexFunc_array_Slot_array_Slot_l1 C K) (puts (args0 [a0, a1]) [(4, (.int .i64 0)), (6, a0), (7, v7), (8, (.int .i64 0))]) g n

theorem slices_IndexFunc_array_Slot_array_Slot_eq (C : CT) (a0 a1 : Value) (g : G) (n : Nat) (K : Cont) : slices_IndexFunc_array_Slot_array_Slot C a0 a1 g n K = abody Try.prog C slices_IndexFunc_array_Slot_array_Slot_id [a0, a1] g n K := by kernel_rfl

/- bellows/array.empty -/
def array_empty (C : CT) (a0 : Value) (g : G) (n : Nat) (K : Cont) : Prop :=
kAgg a0 fun c1 =>
kNew c1 .exact g n fun l1 g1 n1 =>
kLd g1 l1 (0 + 0) fun v4 =>
kBin .int .eql v4 (.int .i64 0) fun v5 =>
aRet K v5 g1 n1

theorem array_empty_eq (C : CT) (a0 : Value) (g : G) (n : Nat) (K : Cont) : array_empty C a0 g n K = abody Try.prog C array_empty_id [a0] g n K := by kernel_rfl

/- (*bellows/array.Array).number -/
def array_Array_number (C : CT) (a0 : Value) (g : G) (n : Nat) (K : Cont) : Prop :=
kNil a0 fun v4 =>
kPtr v4 fun l5 o5 =>
kLd g l5 (o5 + 3) fun v6 =>
kBin .int .add v6 (.int .i64 1) fun v7 =>
kNil a0 fun v8 =>
kPtr v8 fun l9 o9 =>
kSt g l9 (o9 + 3) v7 fun g1 =>
kNil a0 fun v11 =>
kPtr v11 fun l12 o12 =>
kLd g1 l12 (o12 + 3) fun v13 =>
aRet K v13 g1 n

theorem array_Array_number_eq (C : CT) (a0 : Value) (g : G) (n : Nat) (K : Cont) : array_Array_number C a0 g n K = abody Try.prog C array_Array_number_id [a0] g n K := by kernel_rfl

/- (*bellows/bellowsref05.Array).first -/
def bellowsref05_Array_first (C : CT) (a0 a1 : Value) (g : G) (n : Nat) (K : Cont) : Prop :=
kNil a0 fun v6 =>
kPtr v6 fun l7 o7 =>
kLd g l7 (o7 + 0) fun v8 =>
kNil a0 fun v12 =>
kPtr v12 fun l13 o13 =>
kLd g l13 (o13 + 1) fun v14 =>
C bellowsref04_Set_id [v8, a1] g n fun v10 g1 n10 =>
(kPtr (ptr l13 (o13 + 1)) fun l _ => g1 l = g l) ∧ kBin .int .mul v10 v14 fun v15 =>
aRet K v15 g1 n10

theorem bellowsref05_Array_first_eq (C : CT) (a0 a1 : Value) (g : G) (n : Nat) (K : Cont) : bellowsref05_Array_first C a0 a1 g n K = abody Try.prog C bellowsref05_Array_first_id [a0, a1] g n K := by kernel_rfl

/- bellows/bellowsref05.rest -/
def bellowsref05_rest (C : CT) (a0 : Value) (g : G) (n : Nat) (K : Cont) : Prop :=
kBin .int .geq a0 (.int .i64 1) fun v4 =>
kSplit v4 (
kBin .int .leq a0 (.int .i64 3) fun v7 =>
aRet K v7 g n) (
aRet K (.bool false) g n)

theorem bellowsref05_rest_eq (C : CT) (a0 : Value) (g : G) (n : Nat) (K : Cont) : bellowsref05_rest C a0 g n K = abody Try.prog C bellowsref05_rest_id [a0] g n K := by kernel_rfl

/- slices.DeleteFunc[[]bellows/array.Slot,bellows/array.Slot] -/
def slices_DeleteFunc_array_Slot_array_Slot_j2 (C : CT) (K : Cont) (I_l1 : ECont) (t : Env) (g : G) (n : Nat) : Prop :=
kBin .int .add (t 6) (.int .i64 1) fun v21 =>
I_l1 (puts t [(20, (t 6)), (21, v21), (6, v21)]) g n

def slices_DeleteFunc_array_Slot_array_Slot_j3 (C : CT) (K : Cont) (t : Env) (g : G) (n : Nat) : Prop :=
kSlice (t 0) (some (t 5)) none none 11 fun v38 =>
kClear v38 [(.int .i64 0), (.int .i64 0), (.int .u64 0), (.int .u64 0), (.int .u64 0), (.int .u64 0), (.int .u64 0), (.int .u64 0), (.int .u64 0), (.int .u64 0), (.int .i64 0)] g fun v_ g6 =>
kSlice (t 0) none (some (t 5)) none 11 fun v41 =>
aRet K v41 g6 n

def slices_DeleteFunc_array_Slot_array_Slot_l1 (C : CT) (K : Cont) (I_l1 : ECont) (t : Env) (g : G) (n : Nat) : Prop :=
kLen (t 0) fun v18 =>
kBin .int .lss (t 6) v18 fun v19 =>
kSplit v19 (
kIndexAddr (t 0) (t 6) 11 fun v24 =>
kPtr v24 fun l25 o25 =>
kLdN g l25 o25 11 fun c25 =>
kNew [(.int .i64 0), (.int .i64 0), (.int .u64 0), (.int .u64 0), (.int .u64 0), (.int .u64 0), (.int .u64 0), (.int .u64 0), (.int .u64 0), (.int .u64 0), (.int .i64 0)] .exact g n fun l7 g2 n7 =>
kAgg (.agg c25.toArray) fun cg3 =>
cg3.length = 11 ∧ kStN g2 l7 0 cg3 fun g3 =>
kLdN g3 l7 0 11 fun c27 =>
kCall C (t 1) [(.agg c27.toArray)] g3 n7 fun v28 g4 n28 =>
kUn .not v28 fun v29 =>
kSplit v29 (
kLdN g4 l7 0 11 fun c32 =>
kIndexAddr (t 0) (t 5) 11 fun v33 =>
kPtr v33 fun lg5 og5 =>
kAgg (.agg c32.toArray) fun cg5 =>
cg5.length = 11 ∧ kStN g4 lg5 og5 cg5 fun g5 =>
kBin .int .add (t 5) (.int .i64 1) fun v35 =>
slices_DeleteFunc_array_Slot_array_Slot_j2 C K I_l1 (puts t [(16, (t 6)), (17, (t 0)), (18, v18), (19, v19), (22, (t 0)), (23, (t 6)), (24, v24), (25, (.agg c25.toArray)), (7, (ptr l7 0)), (26, (t 1)), (27, (.agg c27.toArray)), (28, v28), (29, v29), (30, (t 0)), (31, (t 5)), (32, (.agg c32.toArray)), (33, v33), (34, (t 5)), (35, v35), (5, v35)]) g5 n28) (
slices_DeleteFunc_array_Slot_array_Slot_j2 C K I_l1 (puts t [(16, (t 6)), (17, (t 0)), (18, v18), (19, v19), (22, (t 0)), (23, (t 6)), (24, v24), (25, (.agg c25.toArray)), (7, (ptr l7 0)), (26, (t 1)), (27, (.agg c27.toArray)), (28, v28), (29, v29)]) g4 n28)) (
slices_DeleteFunc_array_Slot_array_Slot_j3 C K (puts t [(16, (t 6)), (17, (t 0)), (18, v18), (19, v19)]) g n)

def slices_DeleteFunc_array_Slot_array_Slot (C : CT) (a0 a1 : Value) (g : G) (n : Nat) (K : Cont) : Prop :=
C slices_IndexFunc_array_Slot_array_Slot_id [a0, a1] g n fun v10 g1 n10 =>
kBin .int .eql v10 (.int .i64 (-1)) fun v12 =>
kSplit v12 (
aRet K a0 g1 n10) (
kBin .int .add v10 (.int .i64 1) fun v15 =>
lfp (slices_DeleteFunc_array_Slot_array_Slot_l1 C K) (puts (args0 [a0, a1]) [(4, (.slice none 0 0)), (8, a0), (9, a1), (10, v10), (5, v10), (11, v10), (12, v12), (14, v10), (15, v15), (6, v15)]) g1 n10)

theorem slices_DeleteFunc_array_Slot_array_Slot_eq (C : CT) (a0 a1 : Value) (g : G) (n : Nat) (K : Cont) : slices_DeleteFunc_array_Slot_array_Slot C a0 a1 g n K = abody Try.prog C slices_DeleteFunc_array_Slot_array_Slot_id [a0, a1] g n K := by kernel_rfl

/- slices.Clone[[]bellows/array.Slot,bellows/array.Slot] -/
def slices_Clone_array_Slot_array_Slot (C : CT) (a0 : Value) (g : G) (n : Nat) (K : Cont) : Prop :=
kBin .slice .eql a0 (.slice none 0 0) fun v4 =>
kSplit v4 (
aRet K (.slice none 0 0) g n) (
kFill (reps 0 [(.int .i64 0), (.int .i64 0), (.int .u64 0), (.int .u64 0), (.int .u64 0), (.int .u64 0), (.int .u64 0), (.int .u64 0), (.int .u64 0), (.int .u64 0), (.int .i64 0)]) [] fun c5 =>
kNew c5 .exact g n fun l5 g1 n5 =>
kAppend (.slice (some ⟨l5, 0, none⟩) 0 0) a0 11 88 g1 n5 fun v7 g2 n7 =>
aRet K v7 g2 n7)

theorem slices_Clone_array_Slot_array_Slot_eq (C : CT) (a0 : Value) (g : G) (n : Nat) (K : Cont) : slices_Clone_array_Slot_array_Slot C a0 g n K = abody Try.prog C slices_Clone_array_Slot_array_Slot_id [a0] g n K := by kernel_rfl

/- bellows/trace.Stores$1 -/
def trace_Stores_1 (C : CT) (a0 a1 a2 : Value) (g : G) (n : Nat) (K : Cont) : Prop :=
kAgg a0 fun c3 =>
kNew c3 .exact g n fun l3 g1 n3 =>
kLd g1 l3 (0 + 0) fun v6 =>
kBin .int .eql v6 (.int .i64 3) fun v7 =>
kSplit v7 (
kLd g1 l3 (0 + 2) fun v10 =>
kPtr a1 fun l11 o11 =>
kLd g1 l11 o11 fun v11 =>
kBin .int .eql v10 v11 fun v12 =>
kSplit v12 (
kLd g1 l3 (0 + 3) fun v16 =>
kPtr a2 fun l17 o17 =>
kLd g1 l17 o17 fun v17 =>
kBin .int .eql v16 v17 fun v18 =>
aRet K v18 g1 n3) (
aRet K (.bool false) g1 n3)) (
aRet K (.bool false) g1 n3)

theorem trace_Stores_1_eq (C : CT) (a0 a1 a2 : Value) (g : G) (n : Nat) (K : Cont) : trace_Stores_1 C a0 a1 a2 g n K = abody Try.prog C trace_Stores_1_id [a0, a1, a2] g n K := by kernel_rfl

/- slices.Contains[[]uint64,uint64] -/
def slices_Contains_uint64_uint64 (C : CT) (a0 a1 : Value) (g : G) (n : Nat) (K : Cont) : Prop :=
C slices_Index_uint64_uint64_id [a0, a1] g n fun v7 g1 n7 =>
kBin .int .geq v7 (.int .i64 0) fun v8 =>
aRet K v8 g1 n7

theorem slices_Contains_uint64_uint64_eq (C : CT) (a0 a1 : Value) (g : G) (n : Nat) (K : Cont) : slices_Contains_uint64_uint64 C a0 a1 g n K = abody Try.prog C slices_Contains_uint64_uint64_id [a0, a1] g n K := by kernel_rfl

/- slices.DeleteFunc[[]bellows/api.Event,bellows/api.Event] -/
def slices_DeleteFunc_api_Event_api_Event_j2 (C : CT) (K : Cont) (I_l1 : ECont) (t : Env) (g : G) (n : Nat) : Prop :=
kBin .int .add (t 6) (.int .i64 1) fun v21 =>
I_l1 (puts t [(20, (t 6)), (21, v21), (6, v21)]) g n

def slices_DeleteFunc_api_Event_api_Event_j3 (C : CT) (K : Cont) (t : Env) (g : G) (n : Nat) : Prop :=
kSlice (t 0) (some (t 5)) none none 5 fun v38 =>
kClear v38 [(.int .i64 0), (.int .i64 0), (.int .i64 0), (.int .i64 0), (.int .u64 0)] g fun v_ g6 =>
kSlice (t 0) none (some (t 5)) none 5 fun v41 =>
aRet K v41 g6 n

def slices_DeleteFunc_api_Event_api_Event_l1 (C : CT) (K : Cont) (I_l1 : ECont) (t : Env) (g : G) (n : Nat) : Prop :=
kLen (t 0) fun v18 =>
kBin .int .lss (t 6) v18 fun v19 =>
kSplit v19 (
kIndexAddr (t 0) (t 6) 5 fun v24 =>
kPtr v24 fun l25 o25 =>
kLdN g l25 o25 5 fun c25 =>
kNew [(.int .i64 0), (.int .i64 0), (.int .i64 0), (.int .i64 0), (.int .u64 0)] .exact g n fun l7 g2 n7 =>
kAgg (.agg c25.toArray) fun cg3 =>
cg3.length = 5 ∧ kStN g2 l7 0 cg3 fun g3 =>
kLdN g3 l7 0 5 fun c27 =>
kCall C (t 1) [(.agg c27.toArray)] g3 n7 fun v28 g4 n28 =>
kUn .not v28 fun v29 =>
kSplit v29 (
kLdN g4 l7 0 5 fun c32 =>
kIndexAddr (t 0) (t 5) 5 fun v33 =>
kPtr v33 fun lg5 og5 =>
kAgg (.agg c32.toArray) fun cg5 =>
cg5.length = 5 ∧ kStN g4 lg5 og5 cg5 fun g5 =>
kBin .int .add (t 5) (.int .i64 1) fun v35 =>
slices_DeleteFunc_api_Event_api_Event_j2 C K I_l1 (puts t [(16, (t 6)), (17, (t 0)), (18, v18), (19, v19), (22, (t 0)), (23, (t 6)), (24, v24), (25, (.agg c25.toArray)), (7, (ptr l7 0)), (26, (t 1)), (27, (.agg c27.toArray)), (28, v28), (29, v29), (30, (t 0)), (31, (t 5)), (32, (.agg c32.toArray)), (33, v33), (34, (t 5)), (35, v35), (5, v35)]) g5 n28) (
slices_DeleteFunc_api_Event_api_Event_j2 C K I_l1 (puts t [(16, (t 6)), (17, (t 0)), (18, v18), (19, v19), (22, (t 0)), (23, (t 6)), (24, v24), (25, (.agg c25.toArray)), (7, (ptr l7 0)), (26, (t 1)), (27, (.agg c27.toArray)), (28, v28), (29, v29)]) g4 n28)) (
slices_DeleteFunc_api_Event_api_Event_j3 C K (puts t [(16, (t 6)), (17, (t 0)), (18, v18), (19, v19)]) g n)

def slices_DeleteFunc_api_Event_api_Event (C : CT) (a0 a1 : Value) (g : G) (n : Nat) (K : Cont) : Prop :=
C slices_IndexFunc_api_Event_api_Event_id [a0, a1] g n fun v10 g1 n10 =>
kBin .int .eql v10 (.int .i64 (-1)) fun v12 =>
kSplit v12 (
aRet K a0 g1 n10) (
kBin .int .add v10 (.int .i64 1) fun v15 =>
lfp (slices_DeleteFunc_api_Event_api_Event_l1 C K) (puts (args0 [a0, a1]) [(4, (.slice none 0 0)), (8, a0), (9, a1), (10, v10), (5, v10), (11, v10), (12, v12), (14, v10), (15, v15), (6, v15)]) g1 n10)

theorem slices_DeleteFunc_api_Event_api_Event_eq (C : CT) (a0 a1 : Value) (g : G) (n : Nat) (K : Cont) : slices_DeleteFunc_api_Event_api_Event C a0 a1 g n K = abody Try.prog C slices_DeleteFunc_api_Event_api_Event_id [a0, a1] g n K := by kernel_rfl

/- bellows/persist.stores$1 -/
def persist_stores_1 (C : CT) (a0 a1 : Value) (g : G) (n : Nat) (K : Cont) : Prop :=
kAgg a0 fun c2 =>
kNew c2 .exact g n fun l2 g1 n2 =>
kLd g1 l2 (0 + 2) fun v5 =>
kPtr a1 fun l6 o6 =>
kLd g1 l6 o6 fun v6 =>
kBin .int .neq v5 v6 fun v7 =>
aRet K v7 g1 n2

theorem persist_stores_1_eq (C : CT) (a0 a1 : Value) (g : G) (n : Nat) (K : Cont) : persist_stores_1 C a0 a1 g n K = abody Try.prog C persist_stores_1_id [a0, a1] g n K := by kernel_rfl

/- bellows/word.is -/
def word_is (C : CT) (a0 : Value) (g : G) (n : Nat) (K : Cont) : Prop :=
kBin .int .geq a0 (.int .i64 0) fun v4 =>
kSplit v4 (
kBin .int .lss a0 (.int .i64 8) fun v7 =>
aRet K v7 g n) (
aRet K (.bool false) g n)

theorem word_is_eq (C : CT) (a0 : Value) (g : G) (n : Nat) (K : Cont) : word_is C a0 g n K = abody Try.prog C word_is_id [a0] g n K := by kernel_rfl

/- slices.Index[[]bellows/api.Line,bellows/api.Line] -/
def slices_Index_api_Line_api_Line_l1 (C : CT) (K : Cont) (I_l1 : ECont) (t : Env) (g : G) (n : Nat) : Prop :=
kBin .int .lss (t 8) (t 7) fun v9 =>
kSplit v9 (
kPtr (t 3) fun l11 o11 =>
kLdN g l11 o11 8 fun c11 =>
kIndexAddr (t 0) (t 8) 8 fun v14 =>
kPtr v14 fun l15 o15 =>
kLdN g l15 o15 8 fun c15 =>
kBin (.agg [.i, .i, .i, .i, .i, .i, .i, .i]) .eql (.agg c11.toArray) (.agg c15.toArray) fun v16 =>
kSplit v16 (
aRet K (t 8) g n) (
kBin .int .add (t 8) (.int .i64 1) fun v18 =>
I_l1 (puts t [(9, v9), (10, (t 8)), (5, (t 8)), (11, (.agg c11.toArray)), (12, (t 0)), (13, (t 8)), (14, v14), (15, (.agg c15.toArray)), (16, v16), (18, v18), (8, v18)]) g n)) (
aRet K (.int .i64 (-1)) g n)

def slices_Index_api_Line_api_Line (C : CT) (a0 a1 : Value) (g : G) (n : Nat) (K : Cont) : Prop :=
kAgg a1 fun c3 =>
kNew c3 .exact g n fun l3 g1 n3 =>
kLen a0 fun v7 =>
lfp (slices_Index_api_Line_api_Line_l1 C K) (puts (args0 [a0, a1]) [(3, (ptr l3 0)), (4, (.int .i64 0)), (6, a0), (7, v7), (8, (.int .i64 0))]) g1 n3

theorem slices_Index_api_Line_api_Line_eq (C : CT) (a0 a1 : Value) (g : G) (n : Nat) (K : Cont) : slices_Index_api_Line_api_Line C a0 a1 g n K = abody Try.prog C slices_Index_api_Line_api_Line_id [a0, a1] g n K := by kernel_rfl

/- (*bellows/array.Array).at$1 -/
def array_Array_at_1 (C : CT) (a0 a1 : Value) (g : G) (n : Nat) (K : Cont) : Prop :=
kAgg a0 fun c2 =>
kNew c2 .exact g n fun l2 g1 n2 =>
kLd g1 l2 (0 + 0) fun v5 =>
kBin .int .neq v5 (.int .i64 0) fun v6 =>
kSplit v6 (
kLd g1 l2 (0 + 1) fun v9 =>
kPtr a1 fun l10 o10 =>
kLd g1 l10 o10 fun v10 =>
kBin .int .eql v9 v10 fun v11 =>
aRet K v11 g1 n2) (
aRet K (.bool false) g1 n2)

theorem array_Array_at_1_eq (C : CT) (a0 a1 : Value) (g : G) (n : Nat) (K : Cont) : array_Array_at_1 C a0 a1 g n K = abody Try.prog C array_Array_at_1_id [a0, a1] g n K := by kernel_rfl

/- bellows/geom.Set -/
def geom_Set_j1 (C : CT) (K : Cont) (t : Env) (g : G) (n : Nat) : Prop :=
kSplit (t 8) (
kBin .int .rem (t 1) (t 0) fun v15 =>
aRet K v15 g n) (
aRet K (.int .i64 0) g n)

def geom_Set (C : CT) (a0 a1 : Value) (g : G) (n : Nat) (K : Cont) : Prop :=
kBin .int .lss a1 (.int .i64 0) fun v6 =>
kSplit v6 (
aRet K (.int .i64 0) g n) (
kBin .int .eql a0 (.int .i64 1) fun v9 =>
kSplit v9 (
geom_Set_j1 C K (puts (args0 [a0, a1]) [(4, (.int .i64 0)), (5, a1), (6, v6), (7, a0), (9, v9), (8, v9)]) g n) (
kBin .int .eql a0 (.int .i64 2) fun v10 =>
kSplit v10 (
geom_Set_j1 C K (puts (args0 [a0, a1]) [(4, (.int .i64 0)), (5, a1), (6, v6), (7, a0), (9, v9), (8, v9), (10, v10), (8, v10)]) g n) (
kBin .int .eql a0 (.int .i64 4) fun v11 =>
kSplit v11 (
geom_Set_j1 C K (puts (args0 [a0, a1]) [(4, (.int .i64 0)), (5, a1), (6, v6), (7, a0), (9, v9), (8, v9), (10, v10), (8, v10), (11, v11), (8, v11)]) g n) (
kBin .int .eql a0 (.int .i64 8) fun v12 =>
geom_Set_j1 C K (puts (args0 [a0, a1]) [(4, (.int .i64 0)), (5, a1), (6, v6), (7, a0), (9, v9), (8, v9), (10, v10), (8, v10), (11, v11), (8, v11), (12, v12), (8, v12)]) g n))))

theorem geom_Set_eq (C : CT) (a0 a1 : Value) (g : G) (n : Nat) (K : Cont) : geom_Set C a0 a1 g n K = abody Try.prog C geom_Set_id [a0, a1] g n K := by kernel_rfl

/- slices.Index[[]uint64,uint64] -/
def slices_Index_uint64_uint64_l1 (C : CT) (K : Cont) (I_l1 : ECont) (t : Env) (g : G) (n : Nat) : Prop :=
kBin .int .lss (t 8) (t 7) fun v9 =>
kSplit v9 (
kIndexAddr (t 0) (t 8) 1 fun v14 =>
kPtr v14 fun l15 o15 =>
kLd g l15 o15 fun v15 =>
kBin .int .eql (t 1) v15 fun v16 =>
kSplit v16 (
aRet K (t 8) g n) (
kBin .int .add (t 8) (.int .i64 1) fun v18 =>
I_l1 (puts t [(9, v9), (10, (t 8)), (5, (t 8)), (11, (t 1)), (12, (t 0)), (13, (t 8)), (14, v14), (15, v15), (16, v16), (18, v18), (8, v18)]) g n)) (
aRet K (.int .i64 (-1)) g n)

def slices_Index_uint64_uint64 (C : CT) (a0 a1 : Value) (g : G) (n : Nat) (K : Cont) : Prop :=
kLen a0 fun v7 =>
lfp (slices_Index_uint64_uint64_l1 C K) (puts (args0 [a0, a1]) [(4, (.int .i64 0)), (6, a0), (7, v7), (8, (.int .i64 0))]) g n

theorem slices_Index_uint64_uint64_eq (C : CT) (a0 a1 : Value) (g : G) (n : Nat) (K : Cont) : slices_Index_uint64_uint64 C a0 a1 g n K = abody Try.prog C slices_Index_uint64_uint64_id [a0, a1] g n K := by kernel_rfl

/- slices.IndexFunc[[]bellows/api.Event,bellows/api.Event] -/
def slices_IndexFunc_api_Event_api_Event_l1 (C : CT) (K : Cont) (I_l1 : ECont) (t : Env) (g : G) (n : Nat) : Prop :=
kBin .int .lss (t 8) (t 7) fun v9 =>
kSplit v9 (
kIndexAddr (t 0) (t 8) 5 fun v14 =>
kPtr v14 fun l15 o15 =>
kLdN g l15 o15 5 fun c15 =>
kCall C (t 1) [(.agg c15.toArray)] g n fun v16 g1 n16 =>
kSplit v16 (
aRet K (t 8) g1 n16) (
kBin .int .add (t 8) (.int .i64 1) fun v18 =>
I_l1 (puts t [(9, v9), (10, (t 8)), (5, (t 8)), (11, (t 1)), (12, (t 0)), (13, (t 8)), (14, v14), (15, (.agg c15.toArray)), (16, v16), (18, v18), (8, v18)]) g1 n16)) (
aRet K (.int .i64 (-1)) g n)

def slices_IndexFunc_api_Event_api_Event (C : CT) (a0 a1 : Value) (g : G) (n : Nat) (K : Cont) : Prop :=
kLen a0 fun v7 =>
lfp (slices_IndexFunc_api_Event_api_Event_l1 C K) (puts (args0 [a0, a1]) [(4, (.int .i64 0)), (6, a0), (7, v7), (8, (.int .i64 0))]) g n

theorem slices_IndexFunc_api_Event_api_Event_eq (C : CT) (a0 a1 : Value) (g : G) (n : Nat) (K : Cont) : slices_IndexFunc_api_Event_api_Event C a0 a1 g n K = abody Try.prog C slices_IndexFunc_api_Event_api_Event_id [a0, a1] g n K := by kernel_rfl

end Go.Proofs.Ytncodeibkmekmaa.Gen
