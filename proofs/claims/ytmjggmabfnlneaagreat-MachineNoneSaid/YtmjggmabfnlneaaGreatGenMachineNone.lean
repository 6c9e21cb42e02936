import Derived.Test.YtmjggmabfnlneaaGreatProg
import Derived.KernelRfl
import Derived.Test.YtmjggmabfnlneaaGreatAbsC
/- What the machine comes to on each function, printed by program; each equation is checked by the kernel. -/
set_option linter.all false
set_option linter.deprecated false
namespace Go.Proofs.YtmjggmabfnlneaaGreat.Gen
open Go Go.Proofs.YtmjggmabfnlneaaGreat.Abs

def bellowslaw15_MachineNone_id : FuncId := 3
def machine_New_id : FuncId := 4
def machine_Machine_Do_id : FuncId := 5
def machine_Machine_Play_id : FuncId := 6
def machine_Machine_System_id : FuncId := 7
def machine_Machine_Core_id : FuncId := 8
def machine_Machine_Quiet_id : FuncId := 9
def machine_Machine_Fails_id : FuncId := 10
def bellowslaw15_wakes_id : FuncId := 11
def bellowslaw09_Plain_id : FuncId := 23
def bellowslaw13_Code_id : FuncId := 24
def bellowslaw15_Round_id : FuncId := 25
def mesi_System_Memory_id : FuncId := 26

/- bellows/bellowslaw15.MachineNone -/
def bellowslaw15_MachineNone (C : CT) (a0 : Value) (g : G) (n : Nat) (K : Cont) : Prop :=
kAgg a0 fun c1 =>
kNew c1 .exact g n fun l1 g1 n1 =>
kFill [(.int .i64 0), (.int .i64 0), (.int .i64 0), (.int .i64 0), (.int .i64 0), (.int .i64 0), (.int .i64 0)] [] fun c7 =>
C machine_New_id [(.agg c7.toArray), (.slice none 0 0), (.slice none 0 0), (.slice none 0 0)] g1 n1 fun v8 g2 n8 =>
kExtract v8 0 fun v9 =>
kExtract v8 1 fun v10 =>
kBin .ptr .eql v9 (.pointer none) fun v12 =>
kSplit v12 (
kBin .int .eql v10 (.int .i64 1) fun v15 =>
kSplit v15 (
kLdN g2 l1 0 3 fun c19 =>
C machine_Machine_Do_id [(.pointer none), (.agg c19.toArray)] g2 n8 fun v20 g3 n20 =>
kLen v20 fun v21 =>
kBin .int .eql v21 (.int .i64 0) fun v22 =>
kSplit v22 (
kLdN g3 l1 0 3 fun c26 =>
kFill (reps 1 [(.int .i64 0), (.int .i64 0), (.int .i64 0)]) [(0, (some 3), (.agg c26.toArray))] fun c27 =>
kNew c27 .exact g3 n20 fun l27 g4 n27 =>
C machine_Machine_Play_id [(.pointer none), (.slice (some ⟨l27, 0, none⟩) 1 1)] g4 n27 fun v28 g5 n28 =>
kLen v28 fun v29 =>
kBin .int .eql v29 (.int .i64 0) fun v30 =>
kSplit v30 (
C machine_Machine_System_id [(.pointer none)] g5 n28 fun v34 g6 n34 =>
kBin .ptr .eql v34 (.pointer none) fun v35 =>
kSplit v35 (
C machine_Machine_Core_id [(.pointer none), (.int .i64 0)] g6 n34 fun v39 g7 n39 =>
kBin .ptr .eql v39 (.pointer none) fun v40 =>
kSplit v40 (
C machine_Machine_Quiet_id [(.pointer none)] g7 n39 fun v44 g8 n44 =>
kUn .not v44 fun v45 =>
kSplit v45 (
C machine_Machine_Fails_id [(.pointer none)] g8 n44 fun v49 g9 n49 =>
kBin .int .eql v49 (.int .i64 0) fun v50 =>
kSplit v50 (
C bellowslaw15_wakes_id [] g9 n49 fun v53 g10 n53 =>
aRet K v53 g10 n53) (
aRet K (.bool false) g9 n49)) (
aRet K (.bool false) g8 n44)) (
aRet K (.bool false) g7 n39)) (
aRet K (.bool false) g6 n34)) (
aRet K (.bool false) g5 n28)) (
aRet K (.bool false) g3 n20)) (
aRet K (.bool false) g2 n8)) (
aRet K (.bool false) g2 n8)

theorem bellowslaw15_MachineNone_eq (C : CT) (a0 : Value) (g : G) (n : Nat) (K : Cont) : bellowslaw15_MachineNone C a0 g n K = abody Tryz.prog C bellowslaw15_MachineNone_id [a0] g n K := by kernel_rfl

/- (*bellows/machine.Machine).Play -/
def machine_Machine_Play_l1 (C : CT) (K : Cont) (I_l1 : ECont) (t : Env) (g : G) (n : Nat) : Prop :=
kBin .int .lss (t 14) (t 13) fun v15 =>
kSplit v15 (
kIndexAddr (t 12) (t 14) 3 fun v16 =>
kPtr v16 fun l17 o17 =>
kLdN g l17 o17 3 fun c17 =>
kNew [(.int .i64 0), (.int .i64 0), (.int .i64 0)] .exact g n fun l7 g1 n7 =>
kAgg (.agg c17.toArray) fun cg2 =>
cg2.length = 3 ∧ kStN g1 l7 0 cg2 fun g2 =>
kLdN g2 l7 0 3 fun c20 =>
C machine_Machine_Do_id [(t 0), (.agg c20.toArray)] g2 n7 fun v21 g3 n21 =>
kAppend (t 5) v21 5 40 g3 n21 fun v22 g4 n22 =>
kBin .int .add (t 14) (.int .i64 1) fun v23 =>
I_l1 (puts t [(15, v15), (16, v16), (17, (.agg c17.toArray)), (7, (ptr l7 0)), (18, (t 5)), (19, (t 0)), (20, (.agg c20.toArray)), (21, v21), (22, v22), (5, v22), (23, v23), (14, v23)]) g4 n22) (
aRet K (t 5) g n)

def machine_Machine_Play (C : CT) (a0 a1 : Value) (g : G) (n : Nat) (K : Cont) : Prop :=
kLen a1 fun v10 =>
kMin v10 (.int .i64 100000) fun v11 =>
kSlice a1 none (some v11) none 3 fun v12 =>
kLen v12 fun v13 =>
lfp (machine_Machine_Play_l1 C K) (puts (args0 [a0, a1]) [(4, (.slice none 0 0)), (5, (.slice none 0 0)), (8, a1), (9, a1), (10, v10), (11, v11), (12, v12), (13, v13), (14, (.int .i64 0))]) g n

theorem machine_Machine_Play_eq (C : CT) (a0 a1 : Value) (g : G) (n : Nat) (K : Cont) : machine_Machine_Play C a0 a1 g n K = abody Tryz.prog C machine_Machine_Play_id [a0, a1] g n K := by kernel_rfl

/- bellows/bellowslaw15.wakes -/
def bellowslaw15_wakes_j3 (C : CT) (K : Cont) (I_l1 : ECont) (t : Env) (g : G) (n : Nat) : Prop :=
kBin .int .add (t 7) (.int .i64 1) fun v46 =>
I_l1 (puts t [(45, (t 7)), (46, v46), (7, v46)]) g n

def bellowslaw15_wakes_l2 (C : CT) (K : Cont) (I_l1 : ECont) (I_l2 : ECont) (t : Env) (g : G) (n : Nat) : Prop :=
kLen (t 8) fun v53 =>
kBin .int .lss (t 9) v53 fun v54 =>
kSplit v54 (
kSplit (t 6) (
kBin .int .add (t 9) (.int .i64 1) fun v56 =>
I_l2 (puts t [(51, (t 9)), (52, (t 8)), (53, v53), (54, v54), (57, (t 6)), (58, (.bool true)), (59, undef), (60, undef), (61, undef), (62, undef), (63, undef), (64, undef), (65, undef), (66, undef), (67, undef), (68, undef), (69, undef), (70, undef), (71, undef), (72, undef), (73, (.bool true)), (6, (.bool true)), (55, (t 9)), (56, v56), (9, v56)]) g n) (
kIndexAddr (t 8) (t 9) 5 fun v61 =>
kPtr v61 fun l62 o62 =>
kLd g l62 (o62 + 0) fun v63 =>
kBin .int .eql v63 (.int .i64 8) fun v64 =>
kSplit v64 (
kIndexAddr (t 8) (t 9) 5 fun v68 =>
kPtr v68 fun l69 o69 =>
kLd g l69 (o69 + 4) fun v70 =>
kBin .int .eql v70 (.int .u64 5) fun v71 =>
kBin .int .add (t 9) (.int .i64 1) fun v56 =>
I_l2 (puts t [(51, (t 9)), (52, (t 8)), (53, v53), (54, v54), (57, (t 6)), (58, (.bool false)), (59, (t 8)), (60, (t 9)), (61, v61), (62, (ptr l62 (o62 + 0))), (63, v63), (64, v64), (65, (.bool true)), (66, (t 8)), (67, (t 9)), (68, v68), (69, (ptr l69 (o69 + 4))), (70, v70), (71, v71), (72, v71), (73, v71), (6, v71), (55, (t 9)), (56, v56), (9, v56)]) g n) (
kBin .int .add (t 9) (.int .i64 1) fun v56 =>
I_l2 (puts t [(51, (t 9)), (52, (t 8)), (53, v53), (54, v54), (57, (t 6)), (58, (.bool false)), (59, (t 8)), (60, (t 9)), (61, v61), (62, (ptr l62 (o62 + 0))), (63, v63), (64, v64), (65, (.bool false)), (66, undef), (67, undef), (68, undef), (69, undef), (70, undef), (71, undef), (72, (.bool false)), (73, (.bool false)), (6, (.bool false)), (55, (t 9)), (56, v56), (9, v56)]) g n))) (
bellowslaw15_wakes_j3 C K I_l1 (puts t [(51, (t 9)), (52, (t 8)), (53, v53), (54, v54)]) g n)

def bellowslaw15_wakes_j4 (C : CT) (K : Cont) (t : Env) (g : G) (n : Nat) : Prop :=
C machine_Machine_System_id [(t 4)] g n fun v75 g13 n75 =>
C mesi_System_Memory_id [v75] g13 n75 fun v76 g14 n76 =>
kSplit (t 6) (
C machine_Machine_Quiet_id [(t 4)] g14 n76 fun v80 g15 n80 =>
kSplit v80 (
kLen v76 fun v84 =>
kBin .int .eql v84 (.int .i64 6) fun v85 =>
kSplit v85 (
kIndexAddr v76 (.int .i64 3) 8 fun v89 =>
kIndexArr v89 (.int .i64 0) 8 1 fun v90 =>
kPtr v90 fun l91 o91 =>
kLd g15 l91 o91 fun v91 =>
kBin .int .eql v91 (.int .u64 5) fun v92 =>
kSplit v92 (
C machine_Machine_Core_id [(t 4), (.int .i64 0)] g15 n80 fun v96 g16 n96 =>
kBin .ptr .neq v96 (.pointer none) fun v97 =>
kSplit v97 (
C machine_Machine_Core_id [(t 4), (.int .i64 2)] g16 n96 fun v101 g17 n101 =>
kBin .ptr .eql v101 (.pointer none) fun v102 =>
kSplit v102 (
C machine_Machine_Fails_id [(t 4)] g17 n101 fun v106 g18 n106 =>
kBin .int .eql v106 (.int .i64 0) fun v107 =>
aRet K v107 g18 n106) (
aRet K (.bool false) g17 n101)) (
aRet K (.bool false) g16 n96)) (
aRet K (.bool false) g15 n80)) (
aRet K (.bool false) g15 n80)) (
aRet K (.bool false) g15 n80)) (
aRet K (.bool false) g14 n76)

def bellowslaw15_wakes_l1 (C : CT) (K : Cont) (I_l1 : ECont) (t : Env) (g : G) (n : Nat) : Prop :=
kBin .int .lss (t 7) (.int .i64 40) fun v39 =>
kSplit v39 (
C machine_Machine_Quiet_id [(t 4)] g n fun v42 g10 n42 =>
kUn .not v42 fun v43 =>
kSplit v43 (
kPtr (t 1) fun l48 o48 =>
kLdN g10 l48 o48 7 fun c48 =>
C bellowslaw15_Round_id [(.agg c48.toArray)] g10 n42 fun v49 g11 n49 =>
C machine_Machine_Play_id [(t 4), v49] g11 n49 fun v50 g12 n50 =>
lfp (bellowslaw15_wakes_l2 C K I_l1) (puts t [(38, (t 7)), (39, v39), (40, (.bool true)), (41, (t 4)), (42, v42), (43, v43), (44, v43), (47, (t 4)), (48, (.agg c48.toArray)), (49, v49), (50, v50), (8, v50), (9, (.int .i64 0))]) g12 n50) (
bellowslaw15_wakes_j4 C K (puts t [(38, (t 7)), (39, v39), (40, (.bool true)), (41, (t 4)), (42, v42), (43, v43), (44, v43)]) g10 n42)) (
bellowslaw15_wakes_j4 C K (puts t [(38, (t 7)), (39, v39), (40, (.bool false)), (41, undef), (42, undef), (43, undef), (44, (.bool false))]) g n)

def bellowslaw15_wakes (C : CT) (g : G) (n : Nat) (K : Cont) : Prop :=
C bellowslaw09_Plain_id [] g n fun v11 g1 n11 =>
kNew [(.int .i64 0), (.int .i64 0), (.int .i64 0), (.int .i64 0), (.int .i64 0), (.int .i64 0), (.int .i64 0)] .exact g1 n11 fun l1 g2 n1 =>
kAgg v11 fun cg3 =>
cg3.length = 7 ∧ kStN g2 l1 0 cg3 fun g3 =>
kFill [(.int .i64 0), (.int .i64 0), (.int .i64 0), (.int .i64 0), (.int .i64 0)] [(0, none, (.int .i64 1)), (1, none, (.int .i64 1)), (4, none, (.int .i64 5))] fun c12 =>
kFill [(.int .i64 0), (.int .i64 0), (.int .i64 0), (.int .i64 0), (.int .i64 0)] [(0, none, (.int .i64 9)), (1, none, (.int .i64 1)), (4, none, (.int .i64 192))] fun c13 =>
kFill [(.int .i64 0), (.int .i64 0), (.int .i64 0), (.int .i64 0), (.int .i64 0)] [(0, none, (.int .i64 12)), (4, none, (.int .i64 192))] fun c14 =>
kFill [(.int .i64 0), (.int .i64 0), (.int .i64 0), (.int .i64 0), (.int .i64 0)] [(0, none, (.int .i64 15))] fun c15 =>
kFill [(.int .i64 0), (.int .i64 0), (.int .i64 0), (.int .i64 0), (.int .i64 0)] [(0, none, (.int .i64 21)), (1, none, (.int .i64 1))] fun c16 =>
kFill [(.int .i64 0), (.int .i64 0), (.int .i64 0), (.int .i64 0), (.int .i64 0)] [(0, none, (.int .i64 22))] fun c17 =>
kFill (reps 6 [(.int .i64 0), (.int .i64 0), (.int .i64 0), (.int .i64 0), (.int .i64 0)]) [(0, (some 5), (.agg c12.toArray)), (5, (some 5), (.agg c13.toArray)), (10, (some 5), (.agg c14.toArray)), (15, (some 5), (.agg c15.toArray)), (20, (some 5), (.agg c16.toArray)), (25, (some 5), (.agg c17.toArray))] fun c18 =>
kNew c18 .exact g3 n1 fun l18 g4 n18 =>
C bellowslaw13_Code_id [(.slice (some ⟨l18, 0, none⟩) 6 6)] g4 n18 fun v19 g5 n19 =>
kFill [(.int .i64 0), (.int .i64 0), (.int .i64 0), (.int .i64 0), (.int .i64 0)] [(0, none, (.int .i64 22))] fun c20 =>
kFill (reps 1 [(.int .i64 0), (.int .i64 0), (.int .i64 0), (.int .i64 0), (.int .i64 0)]) [(0, (some 5), (.agg c20.toArray))] fun c21 =>
kNew c21 .exact g5 n19 fun l21 g6 n21 =>
C bellowslaw13_Code_id [(.slice (some ⟨l21, 0, none⟩) 1 1)] g6 n21 fun v22 g7 n22 =>
kLdN g7 l1 0 7 fun c24 =>
kFill (reps 2 [(.slice none 0 0)]) [(0, none, v19), (1, none, v22)] fun c27 =>
kNew c27 .exact g7 n22 fun l27 g8 n27 =>
C machine_New_id [(.agg c24.toArray), (.slice none 0 0), (.slice (some ⟨l27, 0, none⟩) 2 2), v22] g8 n27 fun v29 g9 n29 =>
kExtract v29 0 fun v30 =>
kExtract v29 1 fun v31 =>
kBin .int .neq v31 (.int .i64 0) fun v33 =>
kSplit v33 (
aRet K (.bool false) g9 n29) (
kBin .ptr .eql v30 (.pointer none) fun v36 =>
kSplit v36 (
aRet K (.bool false) g9 n29) (
lfp (bellowslaw15_wakes_l1 C K) (puts (args0 []) [(0, (.bool false)), (11, v11), (1, (ptr l1 0)), (12, (.agg c12.toArray)), (13, (.agg c13.toArray)), (14, (.agg c14.toArray)), (15, (.agg c15.toArray)), (16, (.agg c16.toArray)), (17, (.agg c17.toArray)), (18, (.slice (some ⟨l18, 0, none⟩) 6 6)), (19, v19), (2, v19), (20, (.agg c20.toArray)), (21, (.slice (some ⟨l21, 0, none⟩) 1 1)), (22, v22), (3, v22), (24, (.agg c24.toArray)), (25, v19), (26, v22), (27, (.slice (some ⟨l27, 0, none⟩) 2 2)), (28, v22), (29, v29), (23, v29), (30, v30), (31, v31), (4, v30), (5, v31), (32, v31), (33, v33), (34, (.bool false)), (35, v30), (36, v36), (37, v36), (6, (.bool false)), (7, (.int .i64 0))]) g9 n29))

theorem bellowslaw15_wakes_eq (C : CT) (g : G) (n : Nat) (K : Cont) : bellowslaw15_wakes C g n K = abody Tryz.prog C bellowslaw15_wakes_id [] g n K := by kernel_rfl

end Go.Proofs.YtmjggmabfnlneaaGreat.Gen
