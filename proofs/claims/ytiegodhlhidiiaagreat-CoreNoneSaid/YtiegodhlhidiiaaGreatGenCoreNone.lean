import Derived.Test.YtiegodhlhidiiaaGreatProg
import Derived.KernelRfl
import Derived.Test.YtiegodhlhidiiaaGreatAbsC
/- What the machine comes to on each function, printed by program; each equation is checked by the kernel. -/
set_option linter.all false
set_option linter.deprecated false
namespace Go.Proofs.YtiegodhlhidiiaaGreat.Gen
open Go Go.Proofs.YtiegodhlhidiiaaGreat.Abs

def bellowslaw13_CoreNone_id : FuncId := 3
def bellowslaw13_wakes_id : FuncId := 4
def core_Core_Stop_id : FuncId := 5
def core_New_id : FuncId := 6
def core_Core_Exec_id : FuncId := 7
def core_Core_Drain_id : FuncId := 8
def core_Core_Hear_id : FuncId := 9
def core_Core_Regs_id : FuncId := 10
def core_Core_Place_id : FuncId := 11
def core_Core_Buffer_id : FuncId := 12
def core_Core_Waits_id : FuncId := 13
def core_Core_Runs_id : FuncId := 14
def mesi_New_id : FuncId := 15
def bellowslaw09_Plain_id : FuncId := 16
def bellowslaw13_Code_id : FuncId := 17
def sbuf_New_id : FuncId := 18
def core_code_ins_id : FuncId := 19
def core_step_trap_id : FuncId := 20
def core_step_do_id : FuncId := 21
def sbuf_Buffer_Head_id : FuncId := 22
def mesi_System_Store_id : FuncId := 23
def core_step_event_id : FuncId := 24
def core_step_flush_id : FuncId := 25
def sbuf_Buffer_Send_id : FuncId := 26
def sbuf_Buffer_Pop_id : FuncId := 27

/- bellows/bellowslaw13.CoreNone -/
def bellowslaw13_CoreNone (C : CT) (a0 a1 : Value) (g : G) (n : Nat) (K : Cont) : Prop :=
kAgg a0 fun c2 =>
kNew c2 .exact g n fun l2 g1 n2 =>
kLen a1 fun v9 =>
kBin .int .gtr v9 (.int .i64 1000) fun v10 =>
kSplit v10 (
C bellowslaw13_wakes_id [] g1 n2 fun v11 g2 n11 =>
aRet K v11 g2 n11) (
C core_Core_Stop_id [(.pointer none)] g1 n2 fun v13 g3 n13 =>
C core_New_id [(.int .i64 0), (.int .i64 1), a1] g3 n13 fun v16 g4 n16 =>
kExtract v16 0 fun v17 =>
kExtract v16 1 fun v18 =>
kBin .int .neq v18 (.int .i64 0) fun v20 =>
kSplit v20 (
aRet K (.bool false) g4 n16) (
kBin .ptr .eql v17 (.pointer none) fun v23 =>
kSplit v23 (
aRet K (.bool false) g4 n16) (
C core_Core_Exec_id [(.pointer none), (.pointer none)] g4 n16 fun v26 g5 n26 =>
kLen v26 fun v27 =>
kBin .int .eql v27 (.int .i64 0) fun v28 =>
kSplit v28 (
C core_Core_Drain_id [(.pointer none), (.pointer none)] g5 n26 fun v31 g6 n31 =>
kLen v31 fun v32 =>
kBin .int .eql v32 (.int .i64 0) fun v33 =>
kSplit v33 (
kLdN g6 l2 0 12 fun c37 =>
C core_Core_Hear_id [(.pointer none), (.agg c37.toArray)] g6 n31 fun v38 g7 n38 =>
kLen v38 fun v39 =>
kBin .int .eql v39 (.int .i64 0) fun v40 =>
kSplit v40 (
C core_Core_Regs_id [(.pointer none)] g7 n38 fun v44 g8 n44 =>
kFill [(.int .u64 0), (.int .u64 0), (.int .u64 0), (.int .u64 0), (.int .u64 0), (.int .u64 0), (.int .u64 0), (.int .u64 0)] [] fun c45 =>
kBin (.agg [.i, .i, .i, .i, .i, .i, .i, .i]) .eql v44 (.agg c45.toArray) fun v46 =>
kSplit v46 (
C core_Core_Place_id [(.pointer none)] g8 n44 fun v50 g9 n50 =>
kBin .int .eql v50 (.int .i64 0) fun v51 =>
kSplit v51 (
C core_Core_Buffer_id [(.pointer none)] g9 n50 fun v55 g10 n55 =>
kLen v55 fun v56 =>
kBin .int .eql v56 (.int .i64 0) fun v57 =>
kSplit v57 (
C core_Core_Waits_id [(.pointer none)] g10 n55 fun v61 g11 n61 =>
kBin .int .eql v61 (.int .i64 0) fun v62 =>
kSplit v62 (
C core_Core_Runs_id [(.pointer none)] g11 n61 fun v66 g12 n66 =>
kUn .not v66 fun v67 =>
kSplit v67 (
C core_Core_Exec_id [v17, (.pointer none)] g12 n66 fun v71 g13 n71 =>
kLen v71 fun v72 =>
kBin .int .eql v72 (.int .i64 0) fun v73 =>
kSplit v73 (
C core_Core_Drain_id [v17, (.pointer none)] g13 n71 fun v77 g14 n77 =>
kLen v77 fun v78 =>
kBin .int .eql v78 (.int .i64 0) fun v79 =>
kSplit v79 (
C core_Core_Runs_id [v17] g14 n77 fun v83 g15 n83 =>
kSplit v83 (
C bellowslaw13_wakes_id [] g15 n83 fun v86 g16 n86 =>
aRet K v86 g16 n86) (
aRet K (.bool false) g15 n83)) (
aRet K (.bool false) g14 n77)) (
aRet K (.bool false) g13 n71)) (
aRet K (.bool false) g12 n66)) (
aRet K (.bool false) g11 n61)) (
aRet K (.bool false) g10 n55)) (
aRet K (.bool false) g9 n50)) (
aRet K (.bool false) g8 n44)) (
aRet K (.bool false) g7 n38)) (
aRet K (.bool false) g6 n31)) (
aRet K (.bool false) g5 n26))))

theorem bellowslaw13_CoreNone_eq (C : CT) (a0 a1 : Value) (g : G) (n : Nat) (K : Cont) : bellowslaw13_CoreNone C a0 a1 g n K = abody Tryz.prog C bellowslaw13_CoreNone_id [a0, a1] g n K := by kernel_rfl

/- bellows/bellowslaw13.wakes -/
def bellowslaw13_wakes (C : CT) (g : G) (n : Nat) (K : Cont) : Prop :=
C bellowslaw09_Plain_id [] g n fun v9 g1 n9 =>
C mesi_New_id [v9, (.slice none 0 0)] g1 n9 fun v10 g2 n10 =>
kExtract v10 0 fun v11 =>
kExtract v10 1 fun v12 =>
kFill [(.int .i64 0), (.int .i64 0), (.int .i64 0), (.int .i64 0), (.int .i64 0)] [(0, none, (.int .i64 1)), (1, none, (.int .i64 1)), (4, none, (.int .i64 5))] fun c14 =>
kFill [(.int .i64 0), (.int .i64 0), (.int .i64 0), (.int .i64 0), (.int .i64 0)] [(0, none, (.int .i64 9)), (1, none, (.int .i64 1)), (2, none, (.int .i64 0)), (4, none, (.int .i64 192))] fun c15 =>
kFill [(.int .i64 0), (.int .i64 0), (.int .i64 0), (.int .i64 0), (.int .i64 0)] [(0, none, (.int .i64 8)), (1, none, (.int .i64 2)), (2, none, (.int .i64 0)), (4, none, (.int .i64 192))] fun c16 =>
kFill [(.int .i64 0), (.int .i64 0), (.int .i64 0), (.int .i64 0), (.int .i64 0)] [(0, none, (.int .i64 8)), (1, none, (.int .i64 3)), (2, none, (.int .i64 0)), (4, none, (.int .i64 193))] fun c17 =>
kFill (reps 4 [(.int .i64 0), (.int .i64 0), (.int .i64 0), (.int .i64 0), (.int .i64 0)]) [(0, (some 5), (.agg c14.toArray)), (5, (some 5), (.agg c15.toArray)), (10, (some 5), (.agg c16.toArray)), (15, (some 5), (.agg c17.toArray))] fun c18 =>
kNew c18 .exact g2 n10 fun l18 g3 n18 =>
C bellowslaw13_Code_id [(.slice (some ⟨l18, 0, none⟩) 4 4)] g3 n18 fun v19 g4 n19 =>
C core_New_id [(.int .i64 0), (.int .i64 2), v19] g4 n19 fun v20 g5 n20 =>
kExtract v20 0 fun v21 =>
kExtract v20 1 fun v22 =>
kBin .int .neq v12 (.int .i64 0) fun v24 =>
kSplit v24 (
aRet K (.bool false) g5 n20) (
kBin .int .neq v22 (.int .i64 0) fun v27 =>
kSplit v27 (
aRet K (.bool false) g5 n20) (
kBin .ptr .eql v11 (.pointer none) fun v31 =>
kSplit v31 (
aRet K (.bool false) g5 n20) (
kBin .ptr .eql v21 (.pointer none) fun v35 =>
kSplit v35 (
aRet K (.bool false) g5 n20) (
C core_Core_Exec_id [v21, v11] g5 n20 fun v39 g6 n39 =>
C core_Core_Exec_id [v21, v11] g6 n39 fun v42 g7 n42 =>
C core_Core_Exec_id [v21, v11] g7 n42 fun v45 g8 n45 =>
C core_Core_Exec_id [v21, v11] g8 n45 fun v48 g9 n48 =>
kLen v42 fun v50 =>
kBin .int .eql v50 (.int .i64 1) fun v51 =>
kSplit v51 (
kIndexAddr v42 (.int .i64 0) 5 fun v54 =>
kPtr v54 fun l55 o55 =>
kLd g9 l55 (o55 + 0) fun v56 =>
kBin .int .eql v56 (.int .i64 12) fun v57 =>
kSplit v57 (
kIndexAddr v42 (.int .i64 0) 5 fun v61 =>
kPtr v61 fun l62 o62 =>
kLd g9 l62 (o62 + 2) fun v63 =>
kBin .int .eql v63 (.int .i64 3) fun v64 =>
kSplit v64 (
kLen v45 fun v68 =>
kBin .int .eql v68 (.int .i64 1) fun v69 =>
kSplit v69 (
kIndexAddr v45 (.int .i64 0) 5 fun v73 =>
kPtr v73 fun l74 o74 =>
kLd g9 l74 (o74 + 0) fun v75 =>
kBin .int .eql v75 (.int .i64 2) fun v76 =>
kSplit v76 (
kIndexAddr v45 (.int .i64 0) 5 fun v80 =>
kPtr v80 fun l81 o81 =>
kLd g9 l81 (o81 + 4) fun v82 =>
kBin .int .eql v82 (.int .u64 5) fun v83 =>
kSplit v83 (
kLen v48 fun v87 =>
kBin .int .eql v87 (.int .i64 1) fun v88 =>
kSplit v88 (
kIndexAddr v48 (.int .i64 0) 5 fun v92 =>
kPtr v92 fun l93 o93 =>
kLd g9 l93 (o93 + 0) fun v94 =>
kBin .int .eql v94 (.int .i64 10) fun v95 =>
kSplit v95 (
C core_Core_Regs_id [v21] g9 n48 fun v99 g10 n99 =>
kIdx v99 (.int .i64 2) 8 1 none fun v100 =>
kBin .int .eql v100 (.int .u64 5) fun v101 =>
kSplit v101 (
C core_Core_Runs_id [v21] g10 n99 fun v105 g11 n105 =>
kUn .not v105 fun v106 =>
kSplit v106 (
C core_Core_Buffer_id [v21] g11 n105 fun v110 g12 n110 =>
kLen v110 fun v111 =>
kBin .int .eql v111 (.int .i64 1) fun v112 =>
aRet K v112 g12 n110) (
aRet K (.bool false) g11 n105)) (
aRet K (.bool false) g10 n99)) (
aRet K (.bool false) g9 n48)) (
aRet K (.bool false) g9 n48)) (
aRet K (.bool false) g9 n48)) (
aRet K (.bool false) g9 n48)) (
aRet K (.bool false) g9 n48)) (
aRet K (.bool false) g9 n48)) (
aRet K (.bool false) g9 n48)) (
aRet K (.bool false) g9 n48)))))

theorem bellowslaw13_wakes_eq (C : CT) (g : G) (n : Nat) (K : Cont) : bellowslaw13_wakes C g n K = abody Tryz.prog C bellowslaw13_wakes_id [] g n K := by kernel_rfl

/- bellows/core.New -/
def core_New_j2 (C : CT) (K : Cont) (t : Env) (g : G) (n : Nat) : Prop :=
aRet K (.tuple #[(t 10), (.int .i64 0)]) g n

def core_New_l1 (C : CT) (K : Cont) (I_l1 : ECont) (t : Env) (g : G) (n : Nat) : Prop :=
kBin .int .lss (t 39) (t 38) fun v40 =>
kSplit v40 (
kIndexAddr (t 37) (t 39) 1 fun v42 =>
kPtr v42 fun l43 o43 =>
kLd g l43 o43 fun v43 =>
kNil (t 10) fun v45 =>
kPtr v45 fun l46 o46 =>
kLd g l46 (o46 + 10) fun v47 =>
kIndexAddr v47 (t 39) 10 fun v50 =>
kPtr v50 fun l51 o51 =>
kSt g l51 (o51 + 3) v43 fun g4 =>
kBin .int .add (t 39) (.int .i64 1) fun v52 =>
I_l1 (puts t [(40, v40), (41, (t 39)), (42, v42), (43, v43), (11, (t 39)), (12, v43), (44, (t 10)), (45, v45), (46, (ptr l46 (o46 + 10))), (47, v47), (48, (t 39)), (49, v43), (50, v50), (51, (ptr l51 (o51 + 3))), (52, v52), (39, v52)]) g4 n) (
core_New_j2 C K (puts t [(40, v40)]) g n)

def core_New (C : CT) (a0 a1 a2 : Value) (g : G) (n : Nat) (K : Cont) : Prop :=
kBin .int .lss a0 (.int .i64 0) fun v14 =>
kSplit v14 (
aRet K (.tuple #[(.pointer none), (.int .i64 1)]) g n) (
kBin .int .geq a0 (.int .i64 8) fun v17 =>
kSplit v17 (
aRet K (.tuple #[(.pointer none), (.int .i64 1)]) g n) (
C sbuf_New_id [a1] g n fun v21 g1 n21 =>
kExtract v21 0 fun v22 =>
kExtract v21 1 fun v23 =>
kBin .int .neq v23 (.int .i64 0) fun v25 =>
kSplit v25 (
aRet K (.tuple #[(.pointer none), v23]) g1 n21) (
kLen a2 fun v28 =>
kBin .int .gtr v28 (.int .i64 4096) fun v29 =>
kSplit v29 (
aRet K (.tuple #[(.pointer none), (.int .i64 3)]) g1 n21) (
kLen a2 fun v33 =>
kMake v33 v33 [(.int .u32 0), (.int .i32 0), (.int .u32 0), (.int .u64 0), (.int .i64 0), (.int .i64 0), (.int .i64 0), (.int .i64 0), (.int .i64 0), (.bool false)] 72 g1 n21 fun v34 g2 n34 =>
kFill [(.int .i64 0), (.int .u64 0), (.int .u64 0), (.int .u64 0), (.int .u64 0), (.int .u64 0), (.int .u64 0), (.int .u64 0), (.int .u64 0), (.int .i64 0), (.slice none 0 0), (.pointer none), (.int .i64 0), (.bool false)] [(0, none, a0), (11, none, v22), (13, none, (.bool true)), (10, none, v34)] fun c35 =>
kAgg (.agg c35.toArray) fun c36 =>
kNew c36 .exact g2 n34 fun l36 g3 n36 =>
kLen a2 fun v38 =>
lfp (core_New_l1 C K) (puts (args0 [a0, a1, a2]) [(6, (.pointer none)), (7, (.int .i64 0)), (13, a0), (14, v14), (15, (.bool false)), (16, a0), (17, v17), (18, v17), (20, a1), (21, v21), (19, v21), (22, v22), (23, v23), (8, v22), (9, v23), (24, v23), (25, v25), (27, a2), (28, v28), (29, v29), (30, a0), (31, v22), (32, a2), (33, v33), (34, v34), (35, (.agg c35.toArray)), (36, (ptr l36 0)), (10, (ptr l36 0)), (37, a2), (38, v38), (39, (.int .i64 0))]) g3 n36))))

theorem core_New_eq (C : CT) (a0 a1 a2 : Value) (g : G) (n : Nat) (K : Cont) : core_New C a0 a1 a2 g n K = abody Tryz.prog C core_New_id [a0, a1, a2] g n K := by kernel_rfl

/- (*bellows/core.Core).Exec -/
def core_Core_Exec_j1 (C : CT) (K : Cont) (t : Env) (g : G) (n : Nat) : Prop :=
kUn .not (t 6) fun v52 =>
kSplit v52 (
C core_step_trap_id [(t 5)] g n fun v54 g4 n54 =>
kNil (t 5) fun v56 =>
kPtr v56 fun l57 o57 =>
kLd g4 l57 (o57 + 7) fun v58 =>
aRet K v58 g4 n54) (
C core_step_do_id [(t 5)] g n fun v60 g5 n60 =>
kNil (t 5) fun v62 =>
kPtr v62 fun l63 o63 =>
kLd g5 l63 (o63 + 7) fun v64 =>
aRet K v64 g5 n60)

def core_Core_Exec (C : CT) (a0 a1 : Value) (g : G) (n : Nat) (K : Cont) : Prop :=
kBin .ptr .eql a0 (.pointer none) fun v8 =>
kSplit v8 (
aRet K (.slice none 0 0) g n) (
kBin .ptr .eql a1 (.pointer none) fun v11 =>
kSplit v11 (
aRet K (.slice none 0 0) g n) (
kNil a0 fun v15 =>
kPtr v15 fun l16 o16 =>
kLd g l16 (o16 + 13) fun v17 =>
kUn .not v17 fun v18 =>
kSplit v18 (
aRet K (.slice none 0 0) g n) (
kFill [(.pointer none), (.pointer none), (.int .i64 0), (.int .i64 0), (.int .i64 0), (.int .i64 0), (.int .i64 0), (.slice none 0 0)] [(0, none, a0), (1, none, a1)] fun c22 =>
kAgg (.agg c22.toArray) fun c23 =>
kNew c23 .exact g n fun l23 g1 n23 =>
kNil a0 fun v25 =>
kPtr v25 fun l26 o26 =>
kLd g1 l26 (o26 + 9) fun v27 =>
kNil a0 fun v29 =>
kPtr v29 fun l30 o30 =>
kLd g1 l30 (o30 + 10) fun v31 =>
kLen v31 fun v32 =>
kBin .int .lss v27 v32 fun v33 =>
kSplit v33 (
kNil a0 fun v38 =>
kPtr v38 fun l39 o39 =>
kLd g1 l39 (o39 + 10) fun v40 =>
kNil a0 fun v42 =>
kPtr v42 fun l43 o43 =>
kLd g1 l43 (o43 + 9) fun v44 =>
kIndexAddr v40 v44 10 fun v45 =>
C core_code_ins_id [v45] g1 n23 fun v46 g2 n46 =>
kExtract v46 0 fun v47 =>
kExtract v46 1 fun v48 =>
kAgg v47 fun cg3 =>
cg3.length = 5 ∧ kStN g2 l23 (0 + 2) cg3 fun g3 =>
core_Core_Exec_j1 C K (puts (args0 [a0, a1]) [(4, (.slice none 0 0)), (7, a0), (8, v8), (9, (.bool false)), (10, a1), (11, v11), (12, v11), (13, (.bool false)), (14, a0), (15, v15), (16, (ptr l16 (o16 + 13))), (17, v17), (18, v18), (19, v18), (20, a0), (21, a1), (22, (.agg c22.toArray)), (23, (ptr l23 0)), (5, (ptr l23 0)), (24, a0), (25, v25), (26, (ptr l26 (o26 + 9))), (27, v27), (28, a0), (29, v29), (30, (ptr l30 (o30 + 10))), (31, v31), (32, v32), (33, v33), (6, v33), (34, v33), (36, (ptr l23 0)), (37, a0), (38, v38), (39, (ptr l39 (o39 + 10))), (40, v40), (41, a0), (42, v42), (43, (ptr l43 (o43 + 9))), (44, v44), (45, v45), (46, v46), (35, v46), (47, v47), (48, v48), (49, (ptr l23 0)), (50, (ptr l23 (0 + 2))), (6, v48)]) g3 n46) (
core_Core_Exec_j1 C K (puts (args0 [a0, a1]) [(4, (.slice none 0 0)), (7, a0), (8, v8), (9, (.bool false)), (10, a1), (11, v11), (12, v11), (13, (.bool false)), (14, a0), (15, v15), (16, (ptr l16 (o16 + 13))), (17, v17), (18, v18), (19, v18), (20, a0), (21, a1), (22, (.agg c22.toArray)), (23, (ptr l23 0)), (5, (ptr l23 0)), (24, a0), (25, v25), (26, (ptr l26 (o26 + 9))), (27, v27), (28, a0), (29, v29), (30, (ptr l30 (o30 + 10))), (31, v31), (32, v32), (33, v33), (6, v33), (34, v33)]) g1 n23))))

theorem core_Core_Exec_eq (C : CT) (a0 a1 : Value) (g : G) (n : Nat) (K : Cont) : core_Core_Exec C a0 a1 g n K = abody Tryz.prog C core_Core_Exec_id [a0, a1] g n K := by kernel_rfl

/- (*bellows/core.Core).Drain -/
def core_Core_Drain_j2 (C : CT) (K : Cont) (t : Env) (g : G) (n : Nat) : Prop :=
kNil (t 7) fun v96 =>
kPtr v96 fun l97 o97 =>
kLd g l97 (o97 + 7) fun v98 =>
aRet K v98 g n

def core_Core_Drain_j1 (C : CT) (K : Cont) (t : Env) (g : G) (n : Nat) : Prop :=
kSplit (t 8) (
kNil (t 0) fun v91 =>
kPtr v91 fun l92 o92 =>
kLd g l92 (o92 + 11) fun v93 =>
C sbuf_Buffer_Pop_id [v93] g n fun v94 g7 n94 =>
core_Core_Drain_j2 C K (puts t [(89, (t 8)), (90, (t 0)), (91, v91), (92, (ptr l92 (o92 + 11))), (93, v93), (94, v94)]) g7 n94) (
core_Core_Drain_j2 C K (puts t [(89, (t 8))]) g n)

def core_Core_Drain (C : CT) (a0 a1 : Value) (g : G) (n : Nat) (K : Cont) : Prop :=
kBin .ptr .eql a0 (.pointer none) fun v10 =>
kSplit v10 (
aRet K (.slice none 0 0) g n) (
kBin .ptr .eql a1 (.pointer none) fun v13 =>
kSplit v13 (
aRet K (.slice none 0 0) g n) (
kNil a0 fun v17 =>
kPtr v17 fun l18 o18 =>
kLd g l18 (o18 + 11) fun v19 =>
C sbuf_Buffer_Head_id [v19] g n fun v20 g1 n20 =>
kExtract v20 0 fun v21 =>
kExtract v20 1 fun v22 =>
kNew [(.int .i64 0), (.int .i64 0), (.int .i64 0), (.int .u64 0), (.bool false)] .exact g1 n20 fun l5 g2 n5 =>
kAgg v21 fun cg3 =>
cg3.length = 5 ∧ kStN g2 l5 0 cg3 fun g3 =>
kUn .not v22 fun v24 =>
kSplit v24 (
aRet K (.slice none 0 0) g3 n5) (
kFill [(.pointer none), (.pointer none), (.int .i64 0), (.int .i64 0), (.int .i64 0), (.int .i64 0), (.int .i64 0), (.slice none 0 0)] [(0, none, a0), (1, none, a1)] fun c27 =>
kAgg (.agg c27.toArray) fun c28 =>
kNew c28 .exact g3 n5 fun l28 g4 n28 =>
kLd g4 l5 (0 + 0) fun v30 =>
kBin .int .eql v30 (.int .i64 9) fun v55 =>
kSplit v55 (
kNil a0 fun v58 =>
kPtr v58 fun l59 o59 =>
kLd g4 l59 (o59 + 0) fun v60 =>
kLd g4 l5 (0 + 1) fun v62 =>
kLd g4 l5 (0 + 2) fun v64 =>
kLd g4 l5 (0 + 3) fun v66 =>
C mesi_System_Store_id [a1, v60, v62, v64, v66] g4 n28 fun v67 g5 n67 =>
kSplit v67 (
kLd g5 l5 (0 + 1) fun v71 =>
kLd g5 l5 (0 + 2) fun v73 =>
kLd g5 l5 (0 + 3) fun v75 =>
C core_step_event_id [(ptr l28 0), (.int .i64 3), v71, v73, v75] g5 n67 fun v76 g6 n76 =>
core_Core_Drain_j1 C K (puts (args0 [a0, a1]) [(4, (.slice none 0 0)), (9, a0), (10, v10), (11, (.bool false)), (12, a1), (13, v13), (14, v13), (16, a0), (17, v17), (18, (ptr l18 (o18 + 11))), (19, v19), (20, v20), (15, v20), (21, v21), (22, v22), (5, (ptr l5 0)), (6, v22), (23, v22), (24, v24), (25, a0), (26, a1), (27, (.agg c27.toArray)), (28, (ptr l28 0)), (7, (ptr l28 0)), (8, (.bool false)), (29, (ptr l5 (0 + 0))), (30, v30), (55, v55), (54, v55), (56, a1), (57, a0), (58, v58), (59, (ptr l59 (o59 + 0))), (60, v60), (61, (ptr l5 (0 + 1))), (62, v62), (63, (ptr l5 (0 + 2))), (64, v64), (65, (ptr l5 (0 + 3))), (66, v66), (67, v67), (8, v67), (68, v67), (69, (ptr l28 0)), (70, (ptr l5 (0 + 1))), (71, v71), (72, (ptr l5 (0 + 2))), (73, v73), (74, (ptr l5 (0 + 3))), (75, v75), (76, v76)]) g6 n76) (
core_Core_Drain_j1 C K (puts (args0 [a0, a1]) [(4, (.slice none 0 0)), (9, a0), (10, v10), (11, (.bool false)), (12, a1), (13, v13), (14, v13), (16, a0), (17, v17), (18, (ptr l18 (o18 + 11))), (19, v19), (20, v20), (15, v20), (21, v21), (22, v22), (5, (ptr l5 0)), (6, v22), (23, v22), (24, v24), (25, a0), (26, a1), (27, (.agg c27.toArray)), (28, (ptr l28 0)), (7, (ptr l28 0)), (8, (.bool false)), (29, (ptr l5 (0 + 0))), (30, v30), (55, v55), (54, v55), (56, a1), (57, a0), (58, v58), (59, (ptr l59 (o59 + 0))), (60, v60), (61, (ptr l5 (0 + 1))), (62, v62), (63, (ptr l5 (0 + 2))), (64, v64), (65, (ptr l5 (0 + 3))), (66, v66), (67, v67), (8, v67), (68, v67)]) g5 n67)) (
kBin .int .eql v30 (.int .i64 12) fun v78 =>
kSplit v78 (
kLd g4 l5 (0 + 1) fun v81 =>
C core_step_flush_id [(ptr l28 0), v81, (.int .i64 4)] g4 n28 fun v82 g8 n82 =>
core_Core_Drain_j1 C K (puts (args0 [a0, a1]) [(4, (.slice none 0 0)), (9, a0), (10, v10), (11, (.bool false)), (12, a1), (13, v13), (14, v13), (16, a0), (17, v17), (18, (ptr l18 (o18 + 11))), (19, v19), (20, v20), (15, v20), (21, v21), (22, v22), (5, (ptr l5 0)), (6, v22), (23, v22), (24, v24), (25, a0), (26, a1), (27, (.agg c27.toArray)), (28, (ptr l28 0)), (7, (ptr l28 0)), (8, (.bool false)), (29, (ptr l5 (0 + 0))), (30, v30), (55, v55), (54, v55), (78, v78), (77, v78), (79, (ptr l28 0)), (80, (ptr l5 (0 + 1))), (81, v81), (82, v82), (8, v82)]) g8 n82) (
kBin .int .eql v30 (.int .i64 13) fun v84 =>
kSplit v84 (
kLd g4 l5 (0 + 1) fun v87 =>
C core_step_flush_id [(ptr l28 0), v87, (.int .i64 5)] g4 n28 fun v88 g9 n88 =>
core_Core_Drain_j1 C K (puts (args0 [a0, a1]) [(4, (.slice none 0 0)), (9, a0), (10, v10), (11, (.bool false)), (12, a1), (13, v13), (14, v13), (16, a0), (17, v17), (18, (ptr l18 (o18 + 11))), (19, v19), (20, v20), (15, v20), (21, v21), (22, v22), (5, (ptr l5 0)), (6, v22), (23, v22), (24, v24), (25, a0), (26, a1), (27, (.agg c27.toArray)), (28, (ptr l28 0)), (7, (ptr l28 0)), (8, (.bool false)), (29, (ptr l5 (0 + 0))), (30, v30), (55, v55), (54, v55), (78, v78), (77, v78), (84, v84), (83, v84), (85, (ptr l28 0)), (86, (ptr l5 (0 + 1))), (87, v87), (88, v88), (8, v88)]) g9 n88) (
kLd g4 l5 (0 + 4) fun v32 =>
kSplit v32 (
kNil a0 fun v35 =>
kPtr v35 fun l36 o36 =>
kLd g4 l36 (o36 + 12) fun v37 =>
kBin .int .eql v37 (.int .i64 0) fun v38 =>
kLd g4 l5 (0 + 4) fun v41 =>
kUn .not v41 fun v42 =>
kSplit v42 (
kLd g4 l5 (0 + 1) fun v46 =>
C core_step_flush_id [(ptr l28 0), v46, (.int .i64 5)] g4 n28 fun v47 g10 n47 =>
kSplit v47 (
kNil a0 fun v50 =>
kPtr v50 fun l51 o51 =>
kLd g10 l51 (o51 + 11) fun v52 =>
C sbuf_Buffer_Send_id [v52] g10 n47 fun v53 g11 n53 =>
core_Core_Drain_j1 C K (puts (args0 [a0, a1]) [(4, (.slice none 0 0)), (9, a0), (10, v10), (11, (.bool false)), (12, a1), (13, v13), (14, v13), (16, a0), (17, v17), (18, (ptr l18 (o18 + 11))), (19, v19), (20, v20), (15, v20), (21, v21), (22, v22), (5, (ptr l5 0)), (6, v22), (23, v22), (24, v24), (25, a0), (26, a1), (27, (.agg c27.toArray)), (28, (ptr l28 0)), (7, (ptr l28 0)), (8, (.bool false)), (29, (ptr l5 (0 + 0))), (30, v30), (55, v55), (54, v55), (78, v78), (77, v78), (84, v84), (83, v84), (31, (ptr l5 (0 + 4))), (32, v32), (33, (.bool true)), (34, a0), (35, v35), (36, (ptr l36 (o36 + 12))), (37, v37), (38, v38), (39, v38), (8, v38), (40, (ptr l5 (0 + 4))), (41, v41), (42, v42), (43, (.bool true)), (44, (ptr l28 0)), (45, (ptr l5 (0 + 1))), (46, v46), (47, v47), (48, v47), (49, a0), (50, v50), (51, (ptr l51 (o51 + 11))), (52, v52), (53, v53)]) g11 n53) (
core_Core_Drain_j1 C K (puts (args0 [a0, a1]) [(4, (.slice none 0 0)), (9, a0), (10, v10), (11, (.bool false)), (12, a1), (13, v13), (14, v13), (16, a0), (17, v17), (18, (ptr l18 (o18 + 11))), (19, v19), (20, v20), (15, v20), (21, v21), (22, v22), (5, (ptr l5 0)), (6, v22), (23, v22), (24, v24), (25, a0), (26, a1), (27, (.agg c27.toArray)), (28, (ptr l28 0)), (7, (ptr l28 0)), (8, (.bool false)), (29, (ptr l5 (0 + 0))), (30, v30), (55, v55), (54, v55), (78, v78), (77, v78), (84, v84), (83, v84), (31, (ptr l5 (0 + 4))), (32, v32), (33, (.bool true)), (34, a0), (35, v35), (36, (ptr l36 (o36 + 12))), (37, v37), (38, v38), (39, v38), (8, v38), (40, (ptr l5 (0 + 4))), (41, v41), (42, v42), (43, (.bool true)), (44, (ptr l28 0)), (45, (ptr l5 (0 + 1))), (46, v46), (47, v47), (48, v47)]) g10 n47)) (
core_Core_Drain_j1 C K (puts (args0 [a0, a1]) [(4, (.slice none 0 0)), (9, a0), (10, v10), (11, (.bool false)), (12, a1), (13, v13), (14, v13), (16, a0), (17, v17), (18, (ptr l18 (o18 + 11))), (19, v19), (20, v20), (15, v20), (21, v21), (22, v22), (5, (ptr l5 0)), (6, v22), (23, v22), (24, v24), (25, a0), (26, a1), (27, (.agg c27.toArray)), (28, (ptr l28 0)), (7, (ptr l28 0)), (8, (.bool false)), (29, (ptr l5 (0 + 0))), (30, v30), (55, v55), (54, v55), (78, v78), (77, v78), (84, v84), (83, v84), (31, (ptr l5 (0 + 4))), (32, v32), (33, (.bool true)), (34, a0), (35, v35), (36, (ptr l36 (o36 + 12))), (37, v37), (38, v38), (39, v38), (8, v38), (40, (ptr l5 (0 + 4))), (41, v41), (42, v42), (43, (.bool false)), (44, undef), (45, undef), (46, undef), (47, undef), (48, (.bool false))]) g4 n28)) (
kLd g4 l5 (0 + 4) fun v41 =>
kUn .not v41 fun v42 =>
kSplit v42 (
kLd g4 l5 (0 + 1) fun v46 =>
C core_step_flush_id [(ptr l28 0), v46, (.int .i64 5)] g4 n28 fun v47 g12 n47 =>
kSplit v47 (
kNil a0 fun v50 =>
kPtr v50 fun l51 o51 =>
kLd g12 l51 (o51 + 11) fun v52 =>
C sbuf_Buffer_Send_id [v52] g12 n47 fun v53 g13 n53 =>
core_Core_Drain_j1 C K (puts (args0 [a0, a1]) [(4, (.slice none 0 0)), (9, a0), (10, v10), (11, (.bool false)), (12, a1), (13, v13), (14, v13), (16, a0), (17, v17), (18, (ptr l18 (o18 + 11))), (19, v19), (20, v20), (15, v20), (21, v21), (22, v22), (5, (ptr l5 0)), (6, v22), (23, v22), (24, v24), (25, a0), (26, a1), (27, (.agg c27.toArray)), (28, (ptr l28 0)), (7, (ptr l28 0)), (8, (.bool false)), (29, (ptr l5 (0 + 0))), (30, v30), (55, v55), (54, v55), (78, v78), (77, v78), (84, v84), (83, v84), (31, (ptr l5 (0 + 4))), (32, v32), (33, (.bool false)), (34, undef), (35, undef), (36, undef), (37, undef), (38, undef), (39, (.bool false)), (8, (.bool false)), (40, (ptr l5 (0 + 4))), (41, v41), (42, v42), (43, (.bool true)), (44, (ptr l28 0)), (45, (ptr l5 (0 + 1))), (46, v46), (47, v47), (48, v47), (49, a0), (50, v50), (51, (ptr l51 (o51 + 11))), (52, v52), (53, v53)]) g13 n53) (
core_Core_Drain_j1 C K (puts (args0 [a0, a1]) [(4, (.slice none 0 0)), (9, a0), (10, v10), (11, (.bool false)), (12, a1), (13, v13), (14, v13), (16, a0), (17, v17), (18, (ptr l18 (o18 + 11))), (19, v19), (20, v20), (15, v20), (21, v21), (22, v22), (5, (ptr l5 0)), (6, v22), (23, v22), (24, v24), (25, a0), (26, a1), (27, (.agg c27.toArray)), (28, (ptr l28 0)), (7, (ptr l28 0)), (8, (.bool false)), (29, (ptr l5 (0 + 0))), (30, v30), (55, v55), (54, v55), (78, v78), (77, v78), (84, v84), (83, v84), (31, (ptr l5 (0 + 4))), (32, v32), (33, (.bool false)), (34, undef), (35, undef), (36, undef), (37, undef), (38, undef), (39, (.bool false)), (8, (.bool false)), (40, (ptr l5 (0 + 4))), (41, v41), (42, v42), (43, (.bool true)), (44, (ptr l28 0)), (45, (ptr l5 (0 + 1))), (46, v46), (47, v47), (48, v47)]) g12 n47)) (
core_Core_Drain_j1 C K (puts (args0 [a0, a1]) [(4, (.slice none 0 0)), (9, a0), (10, v10), (11, (.bool false)), (12, a1), (13, v13), (14, v13), (16, a0), (17, v17), (18, (ptr l18 (o18 + 11))), (19, v19), (20, v20), (15, v20), (21, v21), (22, v22), (5, (ptr l5 0)), (6, v22), (23, v22), (24, v24), (25, a0), (26, a1), (27, (.agg c27.toArray)), (28, (ptr l28 0)), (7, (ptr l28 0)), (8, (.bool false)), (29, (ptr l5 (0 + 0))), (30, v30), (55, v55), (54, v55), (78, v78), (77, v78), (84, v84), (83, v84), (31, (ptr l5 (0 + 4))), (32, v32), (33, (.bool false)), (34, undef), (35, undef), (36, undef), (37, undef), (38, undef), (39, (.bool false)), (8, (.bool false)), (40, (ptr l5 (0 + 4))), (41, v41), (42, v42), (43, (.bool false)), (44, undef), (45, undef), (46, undef), (47, undef), (48, (.bool false))]) g4 n28))))))))

theorem core_Core_Drain_eq (C : CT) (a0 a1 : Value) (g : G) (n : Nat) (K : Cont) : core_Core_Drain C a0 a1 g n K = abody Tryz.prog C core_Core_Drain_id [a0, a1] g n K := by kernel_rfl

/- (*bellows/core.Core).Runs -/
def core_Core_Runs (C : CT) (a0 : Value) (g : G) (n : Nat) (K : Cont) : Prop :=
kBin .ptr .neq a0 (.pointer none) fun v4 =>
kSplit v4 (
kNil a0 fun v7 =>
kPtr v7 fun l8 o8 =>
kLd g l8 (o8 + 13) fun v9 =>
aRet K v9 g n) (
aRet K (.bool false) g n)

theorem core_Core_Runs_eq (C : CT) (a0 : Value) (g : G) (n : Nat) (K : Cont) : core_Core_Runs C a0 g n K = abody Tryz.prog C core_Core_Runs_id [a0] g n K := by kernel_rfl

/- bellows/sbuf.New -/
def sbuf_New (C : CT) (a0 : Value) (g : G) (n : Nat) (K : Cont) : Prop :=
kBin .int .lss a0 (.int .i64 1) fun v5 =>
kSplit v5 (
aRet K (.tuple #[(.pointer none), (.int .i64 1)]) g n) (
kBin .int .gtr a0 (.int .i64 16) fun v8 =>
kSplit v8 (
aRet K (.tuple #[(.pointer none), (.int .i64 1)]) g n) (
kFill [(.int .i64 0), (.int .i64 0), (.int .i64 0), (.int .u64 0), (.bool false), (.int .i64 0), (.int .i64 0), (.int .i64 0), (.int .u64 0), (.bool false), (.int .i64 0), (.int .i64 0), (.int .i64 0), (.int .u64 0), (.bool false), (.int .i64 0), (.int .i64 0), (.int .i64 0), (.int .u64 0), (.bool false), (.int .i64 0), (.int .i64 0), (.int .i64 0), (.int .u64 0), (.bool false), (.int .i64 0), (.int .i64 0), (.int .i64 0), (.int .u64 0), (.bool false), (.int .i64 0), (.int .i64 0), (.int .i64 0), (.int .u64 0), (.bool false), (.int .i64 0), (.int .i64 0), (.int .i64 0), (.int .u64 0), (.bool false), (.int .i64 0), (.int .i64 0), (.int .i64 0), (.int .u64 0), (.bool false), (.int .i64 0), (.int .i64 0), (.int .i64 0), (.int .u64 0), (.bool false), (.int .i64 0), (.int .i64 0), (.int .i64 0), (.int .u64 0), (.bool false), (.int .i64 0), (.int .i64 0), (.int .i64 0), (.int .u64 0), (.bool false), (.int .i64 0), (.int .i64 0), (.int .i64 0), (.int .u64 0), (.bool false), (.int .i64 0), (.int .i64 0), (.int .i64 0), (.int .u64 0), (.bool false), (.int .i64 0), (.int .i64 0), (.int .i64 0), (.int .u64 0), (.bool false), (.int .i64 0), (.int .i64 0), (.int .i64 0), (.int .u64 0), (.bool false), (.int .i64 0), (.int .i64 0), (.int .i64 0)] [(80, none, a0)] fun c11 =>
kAgg (.agg c11.toArray) fun c12 =>
kNew c12 .exact g n fun l12 g1 n12 =>
aRet K (.tuple #[(ptr l12 0), (.int .i64 0)]) g1 n12))

theorem sbuf_New_eq (C : CT) (a0 : Value) (g : G) (n : Nat) (K : Cont) : sbuf_New C a0 g n K = abody Tryz.prog C sbuf_New_id [a0] g n K := by kernel_rfl

end Go.Proofs.YtiegodhlhidiiaaGreat.Gen
