import Derived.Test.YtldlimkjhppjbaaProg
import Derived.KernelRfl
import Derived.Test.YtldlimkjhppjbaaAbsC
/- What the machine comes to on each function, printed by program; each equation is checked by the kernel. -/
set_option linter.all false
set_option linter.deprecated false
namespace Go.Proofs.Ytldlimkjhppjbaa.Gen
open Go Go.Proofs.Ytldlimkjhppjbaa.Abs

def bellowslaw23_LockCode_id : FuncId := 3
def bellowslaw23_wakes_id : FuncId := 9
def lock_Give_id : FuncId := 10
def bellowsref23_Give_id : FuncId := 11
def lock_Take_id : FuncId := 12
def bellowsref23_Take_id : FuncId := 13
def emit_Builder_Done_id : FuncId := 14
def bellowsref21_Builder_Done_id : FuncId := 15
def bellowskeep_Words_id : FuncId := 16
def emit_Builder_Len_id : FuncId := 35
def emit_Builder_Add_id : FuncId := 36
def lock_li_id : FuncId := 37
def bellowsref21_Builder_Add_id : FuncId := 38
def bellowsref23_Li_id : FuncId := 39
def emit_Builder_Mark_id : FuncId := 40
def emit_Builder_Here_id : FuncId := 41
def emit_Builder_Jump_id : FuncId := 42
def bellowsref21_Builder_Mark_id : FuncId := 43
def bellowsref21_Builder_Here_id : FuncId := 44
def bellowsref21_Builder_Jump_id : FuncId := 45
def slices_Clone_api_Ins_api_Ins_id : FuncId := 46
def isa_Encode_id : FuncId := 47
def bellowsref10_Encode_id : FuncId := 48
def emit_Builder_is_id : FuncId := 73
def isa_Good_id : FuncId := 74
def bellowsref10_Good_id : FuncId := 75
def isa_Has_id : FuncId := 89
def isa_is_id : FuncId := 90
def isa_register_id : FuncId := 91
def strings_Contains_id : FuncId := 92
def isa_jumps_id : FuncId := 93
def bellowsref10_has_id : FuncId := 94
def bellowsref10_reg_id : FuncId := 95
def sync_Once_Do_id : FuncId := 96
def isa_table_fill_id : FuncId := 101
def strings_Index_id : FuncId := 102
def bellowsref10_Has_id : FuncId := 103
def sync_atomic_Bool_Load_id : FuncId := 104
def sync_Once_doSlow_id : FuncId := 105
def internal_stringslite_Index_id : FuncId := 109
def sync_atomic_LoadUint32_id : FuncId := 110
def internal_stringslite_IndexByte_id : FuncId := 115
def internal_bytealg_IndexByteString_id : FuncId := 123

/- bellows/bellowslaw23.LockCode -/
def bellowslaw23_LockCode_j2 (C : CT) (K : Cont) (I_l1 : ECont) (t : Env) (g : G) (n : Nat) : Prop :=
kBin .int .add (t 7) (.int .i64 1) fun v30 =>
I_l1 (puts t [(29, (t 7)), (30, v30), (7, v30)]) g n

def bellowslaw23_LockCode_j3 (C : CT) (K : Cont) (t : Env) (g : G) (n : Nat) : Prop :=
C lock_Take_id [(.pointer none), (.int .u64 8)] g n fun v65 g11 n65 =>
C lock_Give_id [(.pointer none), (.int .u64 8)] g11 n65 fun v66 g12 n66 =>
C emit_Builder_Done_id [(t 5)] g12 n66 fun v69 g13 n69 =>
kExtract v69 0 fun v70 =>
kExtract v69 1 fun v71 =>
C bellowsref21_Builder_Done_id [(t 6)] g13 n69 fun v74 g14 n74 =>
kExtract v74 0 fun v75 =>
kExtract v74 1 fun v76 =>
C bellowskeep_Words_id [v70, v75] g14 n74 fun v79 g15 n79 =>
kSplit v79 (
kBin .int .eql v71 v76 fun v83 =>
kSplit v83 (
C bellowslaw23_wakes_id [] g15 n79 fun v86 g16 n86 =>
aRet K v86 g16 n86) (
aRet K (.bool false) g15 n79)) (
aRet K (.bool false) g15 n79)

def bellowslaw23_LockCode_l1 (C : CT) (K : Cont) (I_l1 : ECont) (t : Env) (g : G) (n : Nat) : Prop :=
kLen (t 0) fun v27 =>
kBin .int .lss (t 7) v27 fun v28 =>
kSplit v28 (
kLen (t 1) fun v33 =>
kBin .int .lss (t 7) v33 fun v34 =>
kSplit v34 (
kIndexAddr (t 1) (t 7) 1 fun v38 =>
kPtr v38 fun l39 o39 =>
kLd g l39 o39 fun v39 =>
kSplit v39 (
kIndexAddr (t 0) (t 7) 1 fun v44 =>
kPtr v44 fun l45 o45 =>
kLd g l45 o45 fun v45 =>
C lock_Give_id [(t 5), v45] g n fun v46 g5 n46 =>
kIndexAddr (t 0) (t 7) 1 fun v50 =>
kPtr v50 fun l51 o51 =>
kLd g5 l51 o51 fun v51 =>
C bellowsref23_Give_id [(t 6), v51] g5 n46 fun v52 g6 n52 =>
bellowslaw23_LockCode_j2 C K I_l1 (puts t [(25, (t 7)), (26, (t 0)), (27, v27), (28, v28), (31, (t 7)), (32, (t 1)), (33, v33), (34, v34), (35, (.bool true)), (36, (t 1)), (37, (t 7)), (38, v38), (39, v39), (40, v39), (41, (t 5)), (42, (t 0)), (43, (t 7)), (44, v44), (45, v45), (46, v46), (47, (t 6)), (48, (t 0)), (49, (t 7)), (50, v50), (51, v51), (52, v52)]) g6 n52) (
kIndexAddr (t 0) (t 7) 1 fun v56 =>
kPtr v56 fun l57 o57 =>
kLd g l57 o57 fun v57 =>
C lock_Take_id [(t 5), v57] g n fun v58 g7 n58 =>
kIndexAddr (t 0) (t 7) 1 fun v62 =>
kPtr v62 fun l63 o63 =>
kLd g7 l63 o63 fun v63 =>
C bellowsref23_Take_id [(t 6), v63] g7 n58 fun v64 g8 n64 =>
bellowslaw23_LockCode_j2 C K I_l1 (puts t [(25, (t 7)), (26, (t 0)), (27, v27), (28, v28), (31, (t 7)), (32, (t 1)), (33, v33), (34, v34), (35, (.bool true)), (36, (t 1)), (37, (t 7)), (38, v38), (39, v39), (40, v39), (53, (t 5)), (54, (t 0)), (55, (t 7)), (56, v56), (57, v57), (58, v58), (59, (t 6)), (60, (t 0)), (61, (t 7)), (62, v62), (63, v63), (64, v64)]) g8 n64)) (
kIndexAddr (t 0) (t 7) 1 fun v56 =>
kPtr v56 fun l57 o57 =>
kLd g l57 o57 fun v57 =>
C lock_Take_id [(t 5), v57] g n fun v58 g9 n58 =>
kIndexAddr (t 0) (t 7) 1 fun v62 =>
kPtr v62 fun l63 o63 =>
kLd g9 l63 o63 fun v63 =>
C bellowsref23_Take_id [(t 6), v63] g9 n58 fun v64 g10 n64 =>
bellowslaw23_LockCode_j2 C K I_l1 (puts t [(25, (t 7)), (26, (t 0)), (27, v27), (28, v28), (31, (t 7)), (32, (t 1)), (33, v33), (34, v34), (35, (.bool false)), (36, undef), (37, undef), (38, undef), (39, undef), (40, (.bool false)), (53, (t 5)), (54, (t 0)), (55, (t 7)), (56, v56), (57, v57), (58, v58), (59, (t 6)), (60, (t 0)), (61, (t 7)), (62, v62), (63, v63), (64, v64)]) g10 n64)) (
bellowslaw23_LockCode_j3 C K (puts t [(25, (t 7)), (26, (t 0)), (27, v27), (28, v28)]) g n)

def bellowslaw23_LockCode (C : CT) (a0 a1 : Value) (g : G) (n : Nat) (K : Cont) : Prop :=
kLen a0 fun v13 =>
kBin .int .gtr v13 (.int .i64 50) fun v14 =>
kSplit v14 (
C bellowslaw23_wakes_id [] g n fun v20 g1 n20 =>
aRet K v20 g1 n20) (
kLen a1 fun v17 =>
kBin .int .gtr v17 (.int .i64 50) fun v18 =>
kSplit v18 (
C bellowslaw23_wakes_id [] g n fun v20 g2 n20 =>
aRet K v20 g2 n20) (
kFill [(.slice none 0 0), (.slice none 0 0), (.slice none 0 0), (.bool false)] [] fun c21 =>
kAgg (.agg c21.toArray) fun c22 =>
kNew c22 .exact g n fun l22 g3 n22 =>
kFill [(.slice none 0 0), (.slice none 0 0), (.bool false)] [] fun c23 =>
kAgg (.agg c23.toArray) fun c24 =>
kNew c24 .exact g3 n22 fun l24 g4 n24 =>
lfp (bellowslaw23_LockCode_l1 C K) (puts (args0 [a0, a1]) [(4, (.bool false)), (12, a0), (13, v13), (14, v14), (15, (.bool false)), (16, a1), (17, v17), (18, v18), (19, v18), (21, (.agg c21.toArray)), (22, (ptr l22 0)), (23, (.agg c23.toArray)), (24, (ptr l24 0)), (5, (ptr l22 0)), (6, (ptr l24 0)), (7, (.int .i64 0))]) g4 n24))

theorem bellowslaw23_LockCode_eq (C : CT) (a0 a1 : Value) (g : G) (n : Nat) (K : Cont) : bellowslaw23_LockCode C a0 a1 g n K = abody Try.prog C bellowslaw23_LockCode_id [a0, a1] g n K := by kernel_rfl

/- bellows/bellowslaw23.wakes -/
def bellowslaw23_wakes (C : CT) (g : G) (n : Nat) (K : Cont) : Prop :=
kFill [(.slice none 0 0), (.slice none 0 0), (.slice none 0 0), (.bool false)] [] fun c5 =>
kAgg (.agg c5.toArray) fun c6 =>
kNew c6 .exact g n fun l6 g1 n6 =>
C lock_Take_id [(ptr l6 0), (.int .u64 8)] g1 n6 fun v8 g2 n8 =>
C emit_Builder_Len_id [(ptr l6 0)] g2 n8 fun v10 g3 n10 =>
C lock_Give_id [(ptr l6 0), (.int .u64 8)] g3 n10 fun v12 g4 n12 =>
C emit_Builder_Done_id [(ptr l6 0)] g4 n12 fun v15 g5 n15 =>
kExtract v15 0 fun v16 =>
kExtract v15 1 fun v17 =>
kBin .int .eql v17 (.int .i64 0) fun v19 =>
kSplit v19 (
kBin .int .eql v10 (.int .i64 6) fun v22 =>
kSplit v22 (
kLen v16 fun v26 =>
kBin .int .eql v26 (.int .i64 9) fun v27 =>
aRet K v27 g5 n15) (
aRet K (.bool false) g5 n15)) (
aRet K (.bool false) g5 n15)

theorem bellowslaw23_wakes_eq (C : CT) (g : G) (n : Nat) (K : Cont) : bellowslaw23_wakes C g n K = abody Try.prog C bellowslaw23_wakes_id [] g n K := by kernel_rfl

/- bellows/lock.Give -/
def lock_Give (C : CT) (a0 a1 : Value) (g : G) (n : Nat) (K : Cont) : Prop :=
kBin .ptr .eql a0 (.pointer none) fun v5 =>
kSplit v5 (
aRet K (.tuple #[]) g n) (
kBin .int .gtr a1 (.int .u64 4095) fun v8 =>
kSplit v8 (
aRet K (.tuple #[]) g n) (
C lock_li_id [(.int .i64 1), a1] g n fun v12 g1 n12 =>
C lock_li_id [(.int .i64 0), (.int .u64 0)] g1 n12 fun v13 g2 n13 =>
kFill [(.int .i64 0), (.int .i64 0), (.int .i64 0), (.int .i64 0), (.int .i64 0)] [(0, none, (.int .i64 9)), (1, none, (.int .i64 0)), (2, none, (.int .i64 1))] fun c14 =>
kFill (reps 3 [(.int .i64 0), (.int .i64 0), (.int .i64 0), (.int .i64 0), (.int .i64 0)]) [(0, (some 5), v12), (5, (some 5), v13), (10, (some 5), (.agg c14.toArray))] fun c15 =>
kNew c15 .exact g2 n13 fun l15 g3 n15 =>
C emit_Builder_Add_id [a0, (.slice (some ⟨l15, 0, none⟩) 3 3)] g3 n15 fun v16 g4 n16 =>
aRet K (.tuple #[]) g4 n16))

theorem lock_Give_eq (C : CT) (a0 a1 : Value) (g : G) (n : Nat) (K : Cont) : lock_Give C a0 a1 g n K = abody Try.prog C lock_Give_id [a0, a1] g n K := by kernel_rfl

/- bellows/bellowsref23.Give -/
def bellowsref23_Give (C : CT) (a0 a1 : Value) (g : G) (n : Nat) (K : Cont) : Prop :=
kBin .int .gtr a1 (.int .u64 4095) fun v5 =>
kSplit v5 (
aRet K (.tuple #[]) g n) (
C bellowsref23_Li_id [(.int .i64 1), a1] g n fun v8 g1 n8 =>
C bellowsref23_Li_id [(.int .i64 0), (.int .u64 0)] g1 n8 fun v9 g2 n9 =>
kFill [(.int .i64 0), (.int .i64 0), (.int .i64 0), (.int .i64 0), (.int .i64 0)] [(0, none, (.int .i64 9)), (1, none, (.int .i64 0)), (2, none, (.int .i64 1))] fun c10 =>
kFill (reps 3 [(.int .i64 0), (.int .i64 0), (.int .i64 0), (.int .i64 0), (.int .i64 0)]) [(0, (some 5), v8), (5, (some 5), v9), (10, (some 5), (.agg c10.toArray))] fun c11 =>
kNew c11 .exact g2 n9 fun l11 g3 n11 =>
C bellowsref21_Builder_Add_id [a0, (.slice (some ⟨l11, 0, none⟩) 3 3)] g3 n11 fun v12 g4 n12 =>
aRet K (.tuple #[]) g4 n12)

theorem bellowsref23_Give_eq (C : CT) (a0 a1 : Value) (g : G) (n : Nat) (K : Cont) : bellowsref23_Give C a0 a1 g n K = abody Try.prog C bellowsref23_Give_id [a0, a1] g n K := by kernel_rfl

/- bellows/lock.Take -/
def lock_Take (C : CT) (a0 a1 : Value) (g : G) (n : Nat) (K : Cont) : Prop :=
kBin .ptr .eql a0 (.pointer none) fun v6 =>
kSplit v6 (
aRet K (.tuple #[]) g n) (
kBin .int .gtr a1 (.int .u64 4095) fun v9 =>
kSplit v9 (
aRet K (.tuple #[]) g n) (
C emit_Builder_Mark_id [a0] g n fun v12 g1 n12 =>
C emit_Builder_Here_id [a0, v12] g1 n12 fun v15 g2 n15 =>
C lock_li_id [(.int .i64 1), a1] g2 n15 fun v18 g3 n18 =>
C lock_li_id [(.int .i64 2), (.int .u64 0)] g3 n18 fun v19 g4 n19 =>
C lock_li_id [(.int .i64 3), (.int .u64 1)] g4 n19 fun v20 g5 n20 =>
kFill [(.int .i64 0), (.int .i64 0), (.int .i64 0), (.int .i64 0), (.int .i64 0)] [(0, none, (.int .i64 10)), (1, none, (.int .i64 2)), (2, none, (.int .i64 1)), (3, none, (.int .i64 3))] fun c21 =>
C lock_li_id [(.int .i64 0), (.int .u64 0)] g5 n20 fun v22 g6 n22 =>
kFill (reps 5 [(.int .i64 0), (.int .i64 0), (.int .i64 0), (.int .i64 0), (.int .i64 0)]) [(0, (some 5), v18), (5, (some 5), v19), (10, (some 5), v20), (15, (some 5), (.agg c21.toArray)), (20, (some 5), v22)] fun c23 =>
kNew c23 .exact g6 n22 fun l23 g7 n23 =>
C emit_Builder_Add_id [a0, (.slice (some ⟨l23, 0, none⟩) 5 5)] g7 n23 fun v24 g8 n24 =>
kFill [(.int .i64 0), (.int .i64 0), (.int .i64 0), (.int .i64 0), (.int .i64 0)] [(0, none, (.int .i64 19)), (1, none, (.int .i64 2)), (2, none, (.int .i64 0))] fun c26 =>
C emit_Builder_Jump_id [a0, (.agg c26.toArray), v12] g8 n24 fun v28 g9 n28 =>
aRet K (.tuple #[]) g9 n28))

theorem lock_Take_eq (C : CT) (a0 a1 : Value) (g : G) (n : Nat) (K : Cont) : lock_Take C a0 a1 g n K = abody Try.prog C lock_Take_id [a0, a1] g n K := by kernel_rfl

/- bellows/bellowsref23.Take -/
def bellowsref23_Take (C : CT) (a0 a1 : Value) (g : G) (n : Nat) (K : Cont) : Prop :=
kBin .int .gtr a1 (.int .u64 4095) fun v6 =>
kSplit v6 (
aRet K (.tuple #[]) g n) (
C bellowsref21_Builder_Mark_id [a0] g n fun v8 g1 n8 =>
C bellowsref21_Builder_Here_id [a0, v8] g1 n8 fun v11 g2 n11 =>
C bellowsref23_Li_id [(.int .i64 1), a1] g2 n11 fun v14 g3 n14 =>
C bellowsref23_Li_id [(.int .i64 2), (.int .u64 0)] g3 n14 fun v15 g4 n15 =>
C bellowsref23_Li_id [(.int .i64 3), (.int .u64 1)] g4 n15 fun v16 g5 n16 =>
kFill [(.int .i64 0), (.int .i64 0), (.int .i64 0), (.int .i64 0), (.int .i64 0)] [(0, none, (.int .i64 10)), (1, none, (.int .i64 2)), (2, none, (.int .i64 1)), (3, none, (.int .i64 3))] fun c17 =>
C bellowsref23_Li_id [(.int .i64 0), (.int .u64 0)] g5 n16 fun v18 g6 n18 =>
kFill (reps 5 [(.int .i64 0), (.int .i64 0), (.int .i64 0), (.int .i64 0), (.int .i64 0)]) [(0, (some 5), v14), (5, (some 5), v15), (10, (some 5), v16), (15, (some 5), (.agg c17.toArray)), (20, (some 5), v18)] fun c19 =>
kNew c19 .exact g6 n18 fun l19 g7 n19 =>
C bellowsref21_Builder_Add_id [a0, (.slice (some ⟨l19, 0, none⟩) 5 5)] g7 n19 fun v20 g8 n20 =>
kFill [(.int .i64 0), (.int .i64 0), (.int .i64 0), (.int .i64 0), (.int .i64 0)] [(0, none, (.int .i64 19)), (1, none, (.int .i64 2)), (2, none, (.int .i64 0))] fun c22 =>
C bellowsref21_Builder_Jump_id [a0, (.agg c22.toArray), v8] g8 n20 fun v24 g9 n24 =>
aRet K (.tuple #[]) g9 n24)

theorem bellowsref23_Take_eq (C : CT) (a0 a1 : Value) (g : G) (n : Nat) (K : Cont) : bellowsref23_Take C a0 a1 g n K = abody Try.prog C bellowsref23_Take_id [a0, a1] g n K := by kernel_rfl

/- (*bellows/emit.Builder).Done -/
def emit_Builder_Done_j4 (C : CT) (K : Cont) (t : Env) (g : G) (n : Nat) : Prop :=
kLen (t 7) fun v77 =>
kBin .int .gtr v77 (.int .i64 4096) fun v78 =>
kSplit v78 (
aRet K (.tuple #[(.slice none 0 0), (.int .i64 3)]) g n) (
aRet K (.tuple #[(t 7), (.int .i64 0)]) g n)

def emit_Builder_Done_l3 (C : CT) (K : Cont) (I_l3 : ECont) (t : Env) (g : G) (n : Nat) : Prop :=
kBin .int .lss (t 59) (t 58) fun v60 =>
kSplit v60 (
kIndexAddr (t 57) (t 59) 5 fun v61 =>
kPtr v61 fun l62 o62 =>
kLdN g l62 o62 5 fun c62 =>
kNew [(.int .i64 0), (.int .i64 0), (.int .i64 0), (.int .i64 0), (.int .i64 0)] .exact g n fun l9 g5 n9 =>
kAgg (.agg c62.toArray) fun cg6 =>
cg6.length = 5 ∧ kStN g5 l9 0 cg6 fun g6 =>
kLdN g6 l9 0 5 fun c64 =>
C isa_Encode_id [(.agg c64.toArray)] g6 n9 fun v65 g7 n65 =>
kExtract v65 0 fun v66 =>
kExtract v65 1 fun v67 =>
kBin .int .neq v67 (.int .i64 0) fun v69 =>
kSplit v69 (
aRet K (.tuple #[(.slice none 0 0), v67]) g7 n65) (
kFill (reps 1 [(.int .u64 0)]) [(0, none, v66)] fun c73 =>
kNew c73 .exact g7 n65 fun l73 g8 n73 =>
kAppend (t 7) (.slice (some ⟨l73, 0, none⟩) 1 1) 1 8 g8 n73 fun v74 g9 n74 =>
kBin .int .add (t 59) (.int .i64 1) fun v75 =>
I_l3 (puts t [(60, v60), (61, v61), (62, (.agg c62.toArray)), (9, (ptr l9 0)), (64, (.agg c64.toArray)), (65, v65), (63, v65), (66, v66), (67, v67), (10, v66), (11, v67), (68, v67), (69, v69), (71, (t 7)), (72, v66), (73, (.slice (some ⟨l73, 0, none⟩) 1 1)), (74, v74), (7, v74), (75, v75), (59, v75)]) g9 n74)) (
emit_Builder_Done_j4 C K (puts t [(60, v60)]) g n)

def emit_Builder_Done_j2 (C : CT) (K : Cont) (t : Env) (g : G) (n : Nat) : Prop :=
kLen (t 4) fun v58 =>
lfp (emit_Builder_Done_l3 C K) (puts t [(7, (.slice none 0 0)), (57, (t 4)), (58, v58), (59, (.int .i64 0))]) g n

def emit_Builder_Done_l1 (C : CT) (K : Cont) (I_l1 : ECont) (t : Env) (g : G) (n : Nat) : Prop :=
kBin .int .lss (t 30) (t 29) fun v31 =>
kSplit v31 (
kIndexAddr (t 28) (t 30) 2 fun v32 =>
kPtr v32 fun l33 o33 =>
kLdN g l33 o33 2 fun c33 =>
kNew [(.int .i64 0), (.int .i64 0)] .exact g n fun l6 g2 n6 =>
kAgg (.agg c33.toArray) fun cg3 =>
cg3.length = 2 ∧ kStN g2 l6 0 cg3 fun g3 =>
kNil (t 0) fun v35 =>
kPtr v35 fun l36 o36 =>
kLd g3 l36 (o36 + 1) fun v37 =>
kLd g3 l6 (0 + 1) fun v39 =>
kIndexAddr v37 v39 1 fun v40 =>
kPtr v40 fun l41 o41 =>
kLd g3 l41 o41 fun v41 =>
kBin .int .lss v41 (.int .i64 0) fun v42 =>
kSplit v42 (
aRet K (.tuple #[(.slice none 0 0), (.int .i64 20)]) g3 n6) (
kLd g3 l6 (0 + 0) fun v45 =>
kNil (t 0) fun v47 =>
kPtr v47 fun l48 o48 =>
kLd g3 l48 (o48 + 1) fun v49 =>
kLd g3 l6 (0 + 1) fun v51 =>
kIndexAddr v49 v51 1 fun v52 =>
kPtr v52 fun l53 o53 =>
kLd g3 l53 o53 fun v53 =>
kIndexAddr (t 4) v45 5 fun v54 =>
kPtr v54 fun l55 o55 =>
kSt g3 l55 (o55 + 4) v53 fun g4 =>
kBin .int .add (t 30) (.int .i64 1) fun v56 =>
I_l1 (puts t [(31, v31), (32, v32), (33, (.agg c33.toArray)), (6, (ptr l6 0)), (34, (t 0)), (35, v35), (36, (ptr l36 (o36 + 1))), (37, v37), (38, (ptr l6 (0 + 1))), (39, v39), (40, v40), (41, v41), (42, v42), (43, (t 4)), (44, (ptr l6 (0 + 0))), (45, v45), (46, (t 0)), (47, v47), (48, (ptr l48 (o48 + 1))), (49, v49), (50, (ptr l6 (0 + 1))), (51, v51), (52, v52), (53, v53), (54, v54), (55, (ptr l55 (o55 + 4))), (56, v56), (30, v56)]) g4 n6)) (
emit_Builder_Done_j2 C K (puts t [(31, v31)]) g n)

def emit_Builder_Done (C : CT) (a0 : Value) (g : G) (n : Nat) (K : Cont) : Prop :=
kBin .ptr .eql a0 (.pointer none) fun v13 =>
kSplit v13 (
aRet K (.tuple #[(.slice none 0 0), (.int .i64 1)]) g n) (
kNil a0 fun v16 =>
kPtr v16 fun l17 o17 =>
kLd g l17 (o17 + 3) fun v18 =>
kSplit v18 (
aRet K (.tuple #[(.slice none 0 0), (.int .i64 1)]) g n) (
kNil a0 fun v21 =>
kPtr v21 fun l22 o22 =>
kLd g l22 (o22 + 0) fun v23 =>
C slices_Clone_api_Ins_api_Ins_id [v23] g n fun v24 g1 n24 =>
kNil a0 fun v26 =>
kPtr v26 fun l27 o27 =>
kLd g1 l27 (o27 + 2) fun v28 =>
kLen v28 fun v29 =>
lfp (emit_Builder_Done_l1 C K) (puts (args0 [a0]) [(2, (.slice none 0 0)), (3, (.int .i64 0)), (12, a0), (13, v13), (14, (.bool false)), (15, a0), (16, v16), (17, (ptr l17 (o17 + 3))), (18, v18), (19, v18), (20, a0), (21, v21), (22, (ptr l22 (o22 + 0))), (23, v23), (24, v24), (4, v24), (25, a0), (26, v26), (27, (ptr l27 (o27 + 2))), (28, v28), (29, v29), (30, (.int .i64 0))]) g1 n24))

theorem emit_Builder_Done_eq (C : CT) (a0 : Value) (g : G) (n : Nat) (K : Cont) : emit_Builder_Done C a0 g n K = abody Try.prog C emit_Builder_Done_id [a0] g n K := by kernel_rfl

/- (*bellows/bellowsref21.Builder).Done -/
def bellowsref21_Builder_Done_j5 (C : CT) (K : Cont) (I_l3 : ECont) (t : Env) (g : G) (n : Nat) : Prop :=
kBin .int .add (t 6) (.int .i64 1) fun v57 =>
I_l3 (puts t [(56, (t 6)), (57, v57), (6, v57)]) g n

def bellowsref21_Builder_Done_j4 (C : CT) (K : Cont) (I_l3 : ECont) (t : Env) (g : G) (n : Nat) : Prop :=
kPtr (t 7) fun l91 o91 =>
kLdN g l91 o91 5 fun c91 =>
C bellowsref10_Encode_id [(.agg c91.toArray)] g n fun v92 g4 n92 =>
kExtract v92 0 fun v93 =>
kExtract v92 1 fun v94 =>
kBin .int .neq v94 (.int .i64 0) fun v96 =>
kSplit v96 (
aRet K (.tuple #[(.slice none 0 0), (.int .i64 11)]) g4 n92) (
kFill (reps 1 [(.int .u64 0)]) [(0, none, v93)] fun c99 =>
kNew c99 .exact g4 n92 fun l99 g5 n99 =>
kAppend (t 5) (.slice (some ⟨l99, 0, none⟩) 1 1) 1 8 g5 n99 fun v100 g6 n100 =>
bellowsref21_Builder_Done_j5 C K I_l3 (puts t [(91, (.agg c91.toArray)), (92, v92), (90, v92), (93, v93), (94, v94), (8, v93), (9, v94), (95, v94), (96, v96), (97, (t 5)), (98, v93), (99, (.slice (some ⟨l99, 0, none⟩) 1 1)), (100, v100), (5, v100)]) g6 n100)

def bellowsref21_Builder_Done_j6 (C : CT) (K : Cont) (t : Env) (g : G) (n : Nat) : Prop :=
kLen (t 5) fun v102 =>
kBin .int .gtr v102 (.int .i64 4096) fun v103 =>
kSplit v103 (
aRet K (.tuple #[(.slice none 0 0), (.int .i64 3)]) g n) (
aRet K (.tuple #[(t 5), (.int .i64 0)]) g n)

def bellowsref21_Builder_Done_l3 (C : CT) (K : Cont) (I_l3 : ECont) (t : Env) (g : G) (n : Nat) : Prop :=
kNil (t 0) fun v51 =>
kPtr v51 fun l52 o52 =>
kLd g l52 (o52 + 0) fun v53 =>
kLen v53 fun v54 =>
kBin .int .lss (t 6) v54 fun v55 =>
kSplit v55 (
kNil (t 0) fun v59 =>
kPtr v59 fun l60 o60 =>
kLd g l60 (o60 + 0) fun v61 =>
kIndexAddr v61 (t 6) 6 fun v63 =>
kPtr v63 fun l64 o64 =>
kLdN g l64 (o64 + 0) 5 fun c65 =>
kNew [(.int .i64 0), (.int .i64 0), (.int .i64 0), (.int .i64 0), (.int .i64 0)] .exact g n fun l7 g1 n7 =>
kAgg (.agg c65.toArray) fun cg2 =>
cg2.length = 5 ∧ kStN g1 l7 0 cg2 fun g2 =>
kNil (t 0) fun v67 =>
kPtr v67 fun l68 o68 =>
kLd g2 l68 (o68 + 0) fun v69 =>
kIndexAddr v69 (t 6) 6 fun v71 =>
kPtr v71 fun l72 o72 =>
kLd g2 l72 (o72 + 5) fun v73 =>
kBin .int .geq v73 (.int .i64 0) fun v74 =>
kSplit v74 (
kNil (t 0) fun v76 =>
kPtr v76 fun l77 o77 =>
kLd g2 l77 (o77 + 1) fun v78 =>
kNil (t 0) fun v80 =>
kPtr v80 fun l81 o81 =>
kLd g2 l81 (o81 + 0) fun v82 =>
kIndexAddr v82 (t 6) 6 fun v84 =>
kPtr v84 fun l85 o85 =>
kLd g2 l85 (o85 + 5) fun v86 =>
kIndexAddr v78 v86 1 fun v87 =>
kPtr v87 fun l88 o88 =>
kLd g2 l88 o88 fun v88 =>
kSt g2 l7 (0 + 4) v88 fun g3 =>
bellowsref21_Builder_Done_j4 C K I_l3 (puts t [(49, (t 6)), (50, (t 0)), (51, v51), (52, (ptr l52 (o52 + 0))), (53, v53), (54, v54), (55, v55), (58, (t 0)), (59, v59), (60, (ptr l60 (o60 + 0))), (61, v61), (62, (t 6)), (63, v63), (64, (ptr l64 (o64 + 0))), (65, (.agg c65.toArray)), (7, (ptr l7 0)), (66, (t 0)), (67, v67), (68, (ptr l68 (o68 + 0))), (69, v69), (70, (t 6)), (71, v71), (72, (ptr l72 (o72 + 5))), (73, v73), (74, v74), (75, (t 0)), (76, v76), (77, (ptr l77 (o77 + 1))), (78, v78), (79, (t 0)), (80, v80), (81, (ptr l81 (o81 + 0))), (82, v82), (83, (t 6)), (84, v84), (85, (ptr l85 (o85 + 5))), (86, v86), (87, v87), (88, v88), (89, (ptr l7 (0 + 4)))]) g3 n7) (
bellowsref21_Builder_Done_j4 C K I_l3 (puts t [(49, (t 6)), (50, (t 0)), (51, v51), (52, (ptr l52 (o52 + 0))), (53, v53), (54, v54), (55, v55), (58, (t 0)), (59, v59), (60, (ptr l60 (o60 + 0))), (61, v61), (62, (t 6)), (63, v63), (64, (ptr l64 (o64 + 0))), (65, (.agg c65.toArray)), (7, (ptr l7 0)), (66, (t 0)), (67, v67), (68, (ptr l68 (o68 + 0))), (69, v69), (70, (t 6)), (71, v71), (72, (ptr l72 (o72 + 5))), (73, v73), (74, v74)]) g2 n7)) (
bellowsref21_Builder_Done_j6 C K (puts t [(49, (t 6)), (50, (t 0)), (51, v51), (52, (ptr l52 (o52 + 0))), (53, v53), (54, v54), (55, v55)]) g n)

def bellowsref21_Builder_Done_j2 (C : CT) (K : Cont) (t : Env) (g : G) (n : Nat) : Prop :=
lfp (bellowsref21_Builder_Done_l3 C K) (puts t [(5, (.slice none 0 0)), (6, (.int .i64 0))]) g n

def bellowsref21_Builder_Done_l1 (C : CT) (K : Cont) (I_l1 : ECont) (t : Env) (g : G) (n : Nat) : Prop :=
kNil (t 0) fun v16 =>
kPtr v16 fun l17 o17 =>
kLd g l17 (o17 + 0) fun v18 =>
kLen v18 fun v19 =>
kBin .int .lss (t 4) v19 fun v20 =>
kSplit v20 (
kNil (t 0) fun v24 =>
kPtr v24 fun l25 o25 =>
kLd g l25 (o25 + 0) fun v26 =>
kIndexAddr v26 (t 4) 6 fun v28 =>
kPtr v28 fun l29 o29 =>
kLd g l29 (o29 + 5) fun v30 =>
kBin .int .geq v30 (.int .i64 0) fun v31 =>
kSplit v31 (
kNil (t 0) fun v34 =>
kPtr v34 fun l35 o35 =>
kLd g l35 (o35 + 1) fun v36 =>
kNil (t 0) fun v38 =>
kPtr v38 fun l39 o39 =>
kLd g l39 (o39 + 0) fun v40 =>
kIndexAddr v40 (t 4) 6 fun v42 =>
kPtr v42 fun l43 o43 =>
kLd g l43 (o43 + 5) fun v44 =>
kIndexAddr v36 v44 1 fun v45 =>
kPtr v45 fun l46 o46 =>
kLd g l46 o46 fun v46 =>
kBin .int .lss v46 (.int .i64 0) fun v47 =>
kSplit v47 (
aRet K (.tuple #[(.slice none 0 0), (.int .i64 20)]) g n) (
kBin .int .add (t 4) (.int .i64 1) fun v22 =>
I_l1 (puts t [(14, (t 4)), (15, (t 0)), (16, v16), (17, (ptr l17 (o17 + 0))), (18, v18), (19, v19), (20, v20), (23, (t 0)), (24, v24), (25, (ptr l25 (o25 + 0))), (26, v26), (27, (t 4)), (28, v28), (29, (ptr l29 (o29 + 5))), (30, v30), (31, v31), (32, (.bool true)), (33, (t 0)), (34, v34), (35, (ptr l35 (o35 + 1))), (36, v36), (37, (t 0)), (38, v38), (39, (ptr l39 (o39 + 0))), (40, v40), (41, (t 4)), (42, v42), (43, (ptr l43 (o43 + 5))), (44, v44), (45, v45), (46, v46), (47, v47), (48, v47), (21, (t 4)), (22, v22), (4, v22)]) g n)) (
kBin .int .add (t 4) (.int .i64 1) fun v22 =>
I_l1 (puts t [(14, (t 4)), (15, (t 0)), (16, v16), (17, (ptr l17 (o17 + 0))), (18, v18), (19, v19), (20, v20), (23, (t 0)), (24, v24), (25, (ptr l25 (o25 + 0))), (26, v26), (27, (t 4)), (28, v28), (29, (ptr l29 (o29 + 5))), (30, v30), (31, v31), (32, (.bool false)), (33, undef), (34, undef), (35, undef), (36, undef), (37, undef), (38, undef), (39, undef), (40, undef), (41, undef), (42, undef), (43, undef), (44, undef), (45, undef), (46, undef), (47, undef), (48, (.bool false)), (21, (t 4)), (22, v22), (4, v22)]) g n)) (
bellowsref21_Builder_Done_j2 C K (puts t [(14, (t 4)), (15, (t 0)), (16, v16), (17, (ptr l17 (o17 + 0))), (18, v18), (19, v19), (20, v20)]) g n)

def bellowsref21_Builder_Done (C : CT) (a0 : Value) (g : G) (n : Nat) (K : Cont) : Prop :=
kNil a0 fun v11 =>
kPtr v11 fun l12 o12 =>
kLd g l12 (o12 + 2) fun v13 =>
kSplit v13 (
aRet K (.tuple #[(.slice none 0 0), (.int .i64 1)]) g n) (
lfp (bellowsref21_Builder_Done_l1 C K) (puts (args0 [a0]) [(2, (.slice none 0 0)), (3, (.int .i64 0)), (10, a0), (11, v11), (12, (ptr l12 (o12 + 2))), (13, v13), (4, (.int .i64 0))]) g n)

theorem bellowsref21_Builder_Done_eq (C : CT) (a0 : Value) (g : G) (n : Nat) (K : Cont) : bellowsref21_Builder_Done C a0 g n K = abody Try.prog C bellowsref21_Builder_Done_id [a0] g n K := by kernel_rfl

/- bellows/bellowskeep.Words -/
def bellowskeep_Words_l1 (C : CT) (K : Cont) (I_l1 : ECont) (t : Env) (g : G) (n : Nat) : Prop :=
kLen (t 0) fun v13 =>
kBin .int .lss (t 5) v13 fun v14 =>
kSplit v14 (
kIndexAddr (t 0) (t 5) 1 fun v19 =>
kPtr v19 fun l20 o20 =>
kLd g l20 o20 fun v20 =>
kIndexAddr (t 1) (t 5) 1 fun v23 =>
kPtr v23 fun l24 o24 =>
kLd g l24 o24 fun v24 =>
kBin .int .neq v20 v24 fun v25 =>
kSplit v25 (
aRet K (.bool false) g n) (
kBin .int .add (t 5) (.int .i64 1) fun v16 =>
I_l1 (puts t [(11, (t 5)), (12, (t 0)), (13, v13), (14, v14), (17, (t 0)), (18, (t 5)), (19, v19), (20, v20), (21, (t 1)), (22, (t 5)), (23, v23), (24, v24), (25, v25), (15, (t 5)), (16, v16), (5, v16)]) g n)) (
aRet K (.bool true) g n)

def bellowskeep_Words (C : CT) (a0 a1 : Value) (g : G) (n : Nat) (K : Cont) : Prop :=
kLen a0 fun v7 =>
kLen a1 fun v9 =>
kBin .int .neq v7 v9 fun v10 =>
kSplit v10 (
aRet K (.bool false) g n) (
lfp (bellowskeep_Words_l1 C K) (puts (args0 [a0, a1]) [(4, (.bool false)), (6, a0), (7, v7), (8, a1), (9, v9), (10, v10), (5, (.int .i64 0))]) g n)

theorem bellowskeep_Words_eq (C : CT) (a0 a1 : Value) (g : G) (n : Nat) (K : Cont) : bellowskeep_Words C a0 a1 g n K = abody Try.prog C bellowskeep_Words_id [a0, a1] g n K := by kernel_rfl

/- (*bellows/emit.Builder).Len -/
def emit_Builder_Len (C : CT) (a0 : Value) (g : G) (n : Nat) (K : Cont) : Prop :=
kBin .ptr .eql a0 (.pointer none) fun v4 =>
kSplit v4 (
aRet K (.int .i64 0) g n) (
kNil a0 fun v6 =>
kPtr v6 fun l7 o7 =>
kLd g l7 (o7 + 0) fun v8 =>
kLen v8 fun v9 =>
aRet K v9 g n)

theorem emit_Builder_Len_eq (C : CT) (a0 : Value) (g : G) (n : Nat) (K : Cont) : emit_Builder_Len C a0 g n K = abody Try.prog C emit_Builder_Len_id [a0] g n K := by kernel_rfl

/- (*bellows/emit.Builder).Add -/
def emit_Builder_Add (C : CT) (a0 a1 : Value) (g : G) (n : Nat) (K : Cont) : Prop :=
kBin .ptr .neq a0 (.pointer none) fun v5 =>
kSplit v5 (
kNil a0 fun v8 =>
kPtr v8 fun l9 o9 =>
kLd g l9 (o9 + 0) fun v10 =>
kAppend v10 a1 5 40 g n fun v12 g1 n12 =>
kNil a0 fun v13 =>
kPtr v13 fun l14 o14 =>
kSt g1 l14 (o14 + 0) v12 fun g2 =>
aRet K (.tuple #[]) g2 n12) (
aRet K (.tuple #[]) g n)

theorem emit_Builder_Add_eq (C : CT) (a0 a1 : Value) (g : G) (n : Nat) (K : Cont) : emit_Builder_Add C a0 a1 g n K = abody Try.prog C emit_Builder_Add_id [a0, a1] g n K := by kernel_rfl

/- bellows/lock.li -/
def lock_li (C : CT) (a0 a1 : Value) (g : G) (n : Nat) (K : Cont) : Prop :=
kNew [(.int .i64 0), (.int .i64 0), (.int .i64 0), (.int .i64 0), (.int .i64 0)] .exact g n fun l4 g1 n4 =>
kConv .i64 a1 fun v7 =>
kFill [(.int .i64 0), (.int .i64 0), (.int .i64 0), (.int .i64 0), (.int .i64 0)] [(0, none, (.int .i64 1)), (1, none, a0), (4, none, v7)] fun c8 =>
kAgg (.agg c8.toArray) fun cg2 =>
cg2.length = 5 ∧ kStN g1 l4 0 cg2 fun g2 =>
kLdN g2 l4 0 5 fun r0 =>
aRet K (.agg r0.toArray) g2 n4

theorem lock_li_eq (C : CT) (a0 a1 : Value) (g : G) (n : Nat) (K : Cont) : lock_li C a0 a1 g n K = abody Try.prog C lock_li_id [a0, a1] g n K := by kernel_rfl

/- (*bellows/bellowsref21.Builder).Add -/
def bellowsref21_Builder_Add_l1 (C : CT) (K : Cont) (I_l1 : ECont) (t : Env) (g : G) (n : Nat) : Prop :=
kLen (t 1) fun v7 =>
kBin .int .lss (t 4) v7 fun v8 =>
kSplit v8 (
kNil (t 0) fun v13 =>
kPtr v13 fun l14 o14 =>
kLd g l14 (o14 + 0) fun v15 =>
kIndexAddr (t 1) (t 4) 5 fun v18 =>
kPtr v18 fun l19 o19 =>
kLdN g l19 o19 5 fun c19 =>
kFill [(.int .i64 0), (.int .i64 0), (.int .i64 0), (.int .i64 0), (.int .i64 0), (.int .i64 0)] [(0, (some 5), (.agg c19.toArray)), (5, none, (.int .i64 (-1)))] fun c20 =>
kFill (reps 1 [(.int .i64 0), (.int .i64 0), (.int .i64 0), (.int .i64 0), (.int .i64 0), (.int .i64 0)]) [(0, (some 6), (.agg c20.toArray))] fun c21 =>
kNew c21 .exact g n fun l21 g1 n21 =>
(kPtr (ptr l14 (o14 + 0)) fun l _ => g1 l = g l) ∧ kAppend v15 (.slice (some ⟨l21, 0, none⟩) 1 1) 6 48 g1 n21 fun v22 g2 n22 =>
kNil (t 0) fun v23 =>
kPtr v23 fun l24 o24 =>
kSt g2 l24 (o24 + 0) v22 fun g3 =>
kBin .int .add (t 4) (.int .i64 1) fun v10 =>
I_l1 (puts t [(5, (t 4)), (6, (t 1)), (7, v7), (8, v8), (11, (t 0)), (12, (t 0)), (13, v13), (14, (ptr l14 (o14 + 0))), (15, v15), (16, (t 1)), (17, (t 4)), (18, v18), (19, (.agg c19.toArray)), (20, (.agg c20.toArray)), (21, (.slice (some ⟨l21, 0, none⟩) 1 1)), (22, v22), (23, v23), (24, (ptr l24 (o24 + 0))), (9, (t 4)), (10, v10), (4, v10)]) g3 n22) (
aRet K (.tuple #[]) g n)

def bellowsref21_Builder_Add (C : CT) (a0 a1 : Value) (g : G) (n : Nat) (K : Cont) : Prop :=
lfp (bellowsref21_Builder_Add_l1 C K) (puts (args0 [a0, a1]) [(4, (.int .i64 0))]) g n

theorem bellowsref21_Builder_Add_eq (C : CT) (a0 a1 : Value) (g : G) (n : Nat) (K : Cont) : bellowsref21_Builder_Add C a0 a1 g n K = abody Try.prog C bellowsref21_Builder_Add_id [a0, a1] g n K := by kernel_rfl

/- bellows/bellowsref23.Li -/
def bellowsref23_Li (C : CT) (a0 a1 : Value) (g : G) (n : Nat) (K : Cont) : Prop :=
kNew [(.int .i64 0), (.int .i64 0), (.int .i64 0), (.int .i64 0), (.int .i64 0)] .exact g n fun l4 g1 n4 =>
kConv .i64 a1 fun v7 =>
kFill [(.int .i64 0), (.int .i64 0), (.int .i64 0), (.int .i64 0), (.int .i64 0)] [(0, none, (.int .i64 1)), (1, none, a0), (4, none, v7)] fun c8 =>
kAgg (.agg c8.toArray) fun cg2 =>
cg2.length = 5 ∧ kStN g1 l4 0 cg2 fun g2 =>
kLdN g2 l4 0 5 fun r0 =>
aRet K (.agg r0.toArray) g2 n4

theorem bellowsref23_Li_eq (C : CT) (a0 a1 : Value) (g : G) (n : Nat) (K : Cont) : bellowsref23_Li C a0 a1 g n K = abody Try.prog C bellowsref23_Li_id [a0, a1] g n K := by kernel_rfl

/- (*bellows/emit.Builder).Mark -/
def emit_Builder_Mark (C : CT) (a0 : Value) (g : G) (n : Nat) (K : Cont) : Prop :=
kBin .ptr .eql a0 (.pointer none) fun v4 =>
kSplit v4 (
aRet K (.int .i64 (-1)) g n) (
kNil a0 fun v7 =>
kPtr v7 fun l8 o8 =>
kLd g l8 (o8 + 1) fun v9 =>
kFill (reps 1 [(.int .i64 0)]) [(0, none, (.int .i64 (-1)))] fun c10 =>
kNew c10 .exact g n fun l10 g1 n10 =>
kAppend v9 (.slice (some ⟨l10, 0, none⟩) 1 1) 1 8 g1 n10 fun v11 g2 n11 =>
kNil a0 fun v12 =>
kPtr v12 fun l13 o13 =>
kSt g2 l13 (o13 + 1) v11 fun g3 =>
kNil a0 fun v15 =>
kPtr v15 fun l16 o16 =>
kLd g3 l16 (o16 + 1) fun v17 =>
kLen v17 fun v18 =>
kBin .int .sub v18 (.int .i64 1) fun v19 =>
aRet K v19 g3 n11)

theorem emit_Builder_Mark_eq (C : CT) (a0 : Value) (g : G) (n : Nat) (K : Cont) : emit_Builder_Mark C a0 g n K = abody Try.prog C emit_Builder_Mark_id [a0] g n K := by kernel_rfl

/- (*bellows/emit.Builder).Here -/
def emit_Builder_Here (C : CT) (a0 a1 : Value) (g : G) (n : Nat) (K : Cont) : Prop :=
kBin .ptr .eql a0 (.pointer none) fun v17 =>
kSplit v17 (
aRet K (.tuple #[]) g n) (
C emit_Builder_is_id [a0, a1] g n fun v21 g1 n21 =>
kUn .not v21 fun v22 =>
kSplit v22 (
kNil a0 fun v34 =>
kPtr v34 fun l35 o35 =>
kSt g1 l35 (o35 + 3) (.bool true) fun g2 =>
aRet K (.tuple #[]) g2 n21) (
kNil a0 fun v25 =>
kPtr v25 fun l26 o26 =>
kLd g1 l26 (o26 + 1) fun v27 =>
kIndexAddr v27 a1 1 fun v29 =>
kPtr v29 fun l30 o30 =>
kLd g1 l30 o30 fun v30 =>
kBin .int .geq v30 (.int .i64 0) fun v31 =>
kSplit v31 (
kNil a0 fun v34 =>
kPtr v34 fun l35 o35 =>
kSt g1 l35 (o35 + 3) (.bool true) fun g3 =>
aRet K (.tuple #[]) g3 n21) (
kNil a0 fun v5 =>
kPtr v5 fun l6 o6 =>
kLd g1 l6 (o6 + 1) fun v7 =>
kNil a0 fun v10 =>
kPtr v10 fun l11 o11 =>
kLd g1 l11 (o11 + 0) fun v12 =>
kLen v12 fun v13 =>
kIndexAddr v7 a1 1 fun v14 =>
kPtr v14 fun lg4 og4 =>
kSt g1 lg4 og4 v13 fun g4 =>
aRet K (.tuple #[]) g4 n21)))

theorem emit_Builder_Here_eq (C : CT) (a0 a1 : Value) (g : G) (n : Nat) (K : Cont) : emit_Builder_Here C a0 a1 g n K = abody Try.prog C emit_Builder_Here_id [a0, a1] g n K := by kernel_rfl

/- (*bellows/emit.Builder).Jump -/
def emit_Builder_Jump (C : CT) (a0 a1 a2 : Value) (g : G) (n : Nat) (K : Cont) : Prop :=
kAgg a1 fun c4 =>
kNew c4 .exact g n fun l4 g1 n4 =>
kBin .ptr .eql a0 (.pointer none) fun v7 =>
kSplit v7 (
aRet K (.tuple #[]) g1 n4) (
C emit_Builder_is_id [a0, a2] g1 n4 fun v10 g2 n10 =>
kUn .not v10 fun v11 =>
kSplit v11 (
kNil a0 fun v23 =>
kPtr v23 fun l24 o24 =>
kSt g2 l24 (o24 + 3) (.bool true) fun g3 =>
aRet K (.tuple #[]) g3 n10) (
kLd g2 l4 (0 + 0) fun v14 =>
kBin .int .lss v14 (.int .i64 17) fun v15 =>
kSplit v15 (
kNil a0 fun v23 =>
kPtr v23 fun l24 o24 =>
kSt g2 l24 (o24 + 3) (.bool true) fun g4 =>
aRet K (.tuple #[]) g4 n10) (
kLd g2 l4 (0 + 0) fun v19 =>
kBin .int .gtr v19 (.int .i64 20) fun v20 =>
kSplit v20 (
kNil a0 fun v23 =>
kPtr v23 fun l24 o24 =>
kSt g2 l24 (o24 + 3) (.bool true) fun g5 =>
aRet K (.tuple #[]) g5 n10) (
kNil a0 fun v27 =>
kPtr v27 fun l28 o28 =>
kLd g2 l28 (o28 + 2) fun v29 =>
kNil a0 fun v31 =>
kPtr v31 fun l32 o32 =>
kLd g2 l32 (o32 + 0) fun v33 =>
kLen v33 fun v34 =>
kFill [(.int .i64 0), (.int .i64 0)] [(0, none, v34), (1, none, a2)] fun c36 =>
kFill (reps 1 [(.int .i64 0), (.int .i64 0)]) [(0, (some 2), (.agg c36.toArray))] fun c37 =>
kNew c37 .exact g2 n10 fun l37 g6 n37 =>
(kPtr (ptr l28 (o28 + 2)) fun l _ => g6 l = g2 l) ∧ kAppend v29 (.slice (some ⟨l37, 0, none⟩) 1 1) 2 16 g6 n37 fun v38 g7 n38 =>
kNil a0 fun v39 =>
kPtr v39 fun l40 o40 =>
kSt g7 l40 (o40 + 2) v38 fun g8 =>
kLdN g8 l4 0 5 fun c42 =>
kFill (reps 1 [(.int .i64 0), (.int .i64 0), (.int .i64 0), (.int .i64 0), (.int .i64 0)]) [(0, (some 5), (.agg c42.toArray))] fun c43 =>
kNew c43 .exact g8 n38 fun l43 g9 n43 =>
C emit_Builder_Add_id [a0, (.slice (some ⟨l43, 0, none⟩) 1 1)] g9 n43 fun v44 g10 n44 =>
aRet K (.tuple #[]) g10 n44))))

theorem emit_Builder_Jump_eq (C : CT) (a0 a1 a2 : Value) (g : G) (n : Nat) (K : Cont) : emit_Builder_Jump C a0 a1 a2 g n K = abody Try.prog C emit_Builder_Jump_id [a0, a1, a2] g n K := by kernel_rfl

/- (*bellows/bellowsref21.Builder).Mark -/
def bellowsref21_Builder_Mark (C : CT) (a0 : Value) (g : G) (n : Nat) (K : Cont) : Prop :=
kNil a0 fun v5 =>
kPtr v5 fun l6 o6 =>
kLd g l6 (o6 + 1) fun v7 =>
kFill (reps 1 [(.int .i64 0)]) [(0, none, (.int .i64 (-1)))] fun c8 =>
kNew c8 .exact g n fun l8 g1 n8 =>
kAppend v7 (.slice (some ⟨l8, 0, none⟩) 1 1) 1 8 g1 n8 fun v9 g2 n9 =>
kNil a0 fun v10 =>
kPtr v10 fun l11 o11 =>
kSt g2 l11 (o11 + 1) v9 fun g3 =>
kNil a0 fun v13 =>
kPtr v13 fun l14 o14 =>
kLd g3 l14 (o14 + 1) fun v15 =>
kLen v15 fun v16 =>
kBin .int .sub v16 (.int .i64 1) fun v17 =>
aRet K v17 g3 n9

theorem bellowsref21_Builder_Mark_eq (C : CT) (a0 : Value) (g : G) (n : Nat) (K : Cont) : bellowsref21_Builder_Mark C a0 g n K = abody Try.prog C bellowsref21_Builder_Mark_id [a0] g n K := by kernel_rfl

/- (*bellows/bellowsref21.Builder).Here -/
def bellowsref21_Builder_Here (C : CT) (a0 a1 : Value) (g : G) (n : Nat) (K : Cont) : Prop :=
kBin .int .lss a1 (.int .i64 0) fun v5 =>
kSplit v5 (
kNil a0 fun v26 =>
kPtr v26 fun l27 o27 =>
kSt g l27 (o27 + 2) (.bool true) fun g1 =>
aRet K (.tuple #[]) g1 n) (
kNil a0 fun v9 =>
kPtr v9 fun l10 o10 =>
kLd g l10 (o10 + 1) fun v11 =>
kLen v11 fun v12 =>
kBin .int .geq a1 v12 fun v13 =>
kSplit v13 (
kNil a0 fun v26 =>
kPtr v26 fun l27 o27 =>
kSt g l27 (o27 + 2) (.bool true) fun g2 =>
aRet K (.tuple #[]) g2 n) (
kNil a0 fun v17 =>
kPtr v17 fun l18 o18 =>
kLd g l18 (o18 + 1) fun v19 =>
kIndexAddr v19 a1 1 fun v21 =>
kPtr v21 fun l22 o22 =>
kLd g l22 o22 fun v22 =>
kBin .int .geq v22 (.int .i64 0) fun v23 =>
kSplit v23 (
kNil a0 fun v26 =>
kPtr v26 fun l27 o27 =>
kSt g l27 (o27 + 2) (.bool true) fun g3 =>
aRet K (.tuple #[]) g3 n) (
kNil a0 fun v29 =>
kPtr v29 fun l30 o30 =>
kLd g l30 (o30 + 1) fun v31 =>
kNil a0 fun v34 =>
kPtr v34 fun l35 o35 =>
kLd g l35 (o35 + 0) fun v36 =>
kLen v36 fun v37 =>
kIndexAddr v31 a1 1 fun v38 =>
kPtr v38 fun lg4 og4 =>
kSt g lg4 og4 v37 fun g4 =>
aRet K (.tuple #[]) g4 n)))

theorem bellowsref21_Builder_Here_eq (C : CT) (a0 a1 : Value) (g : G) (n : Nat) (K : Cont) : bellowsref21_Builder_Here C a0 a1 g n K = abody Try.prog C bellowsref21_Builder_Here_id [a0, a1] g n K := by kernel_rfl

/- (*bellows/bellowsref21.Builder).Jump -/
def bellowsref21_Builder_Jump (C : CT) (a0 a1 a2 : Value) (g : G) (n : Nat) (K : Cont) : Prop :=
kAgg a1 fun c4 =>
kNew c4 .exact g n fun l4 g1 n4 =>
kBin .int .lss a2 (.int .i64 0) fun v7 =>
kSplit v7 (
kNil a0 fun v38 =>
kPtr v38 fun l39 o39 =>
kSt g1 l39 (o39 + 2) (.bool true) fun g2 =>
aRet K (.tuple #[]) g2 n4) (
kNil a0 fun v11 =>
kPtr v11 fun l12 o12 =>
kLd g1 l12 (o12 + 1) fun v13 =>
kLen v13 fun v14 =>
kBin .int .geq a2 v14 fun v15 =>
kSplit v15 (
kNil a0 fun v38 =>
kPtr v38 fun l39 o39 =>
kSt g1 l39 (o39 + 2) (.bool true) fun g3 =>
aRet K (.tuple #[]) g3 n4) (
kLd g1 l4 (0 + 0) fun v19 =>
kBin .int .neq v19 (.int .i64 17) fun v20 =>
kSplit v20 (
kLd g1 l4 (0 + 0) fun v23 =>
kBin .int .neq v23 (.int .i64 18) fun v24 =>
kSplit v24 (
kLd g1 l4 (0 + 0) fun v28 =>
kBin .int .neq v28 (.int .i64 19) fun v29 =>
kSplit v29 (
kLd g1 l4 (0 + 0) fun v33 =>
kBin .int .neq v33 (.int .i64 20) fun v34 =>
kSplit v34 (
kNil a0 fun v38 =>
kPtr v38 fun l39 o39 =>
kSt g1 l39 (o39 + 2) (.bool true) fun g4 =>
aRet K (.tuple #[]) g4 n4) (
kNil a0 fun v42 =>
kPtr v42 fun l43 o43 =>
kLd g1 l43 (o43 + 0) fun v44 =>
kLdN g1 l4 0 5 fun c45 =>
kFill [(.int .i64 0), (.int .i64 0), (.int .i64 0), (.int .i64 0), (.int .i64 0), (.int .i64 0)] [(0, (some 5), (.agg c45.toArray)), (5, none, a2)] fun c47 =>
kFill (reps 1 [(.int .i64 0), (.int .i64 0), (.int .i64 0), (.int .i64 0), (.int .i64 0), (.int .i64 0)]) [(0, (some 6), (.agg c47.toArray))] fun c48 =>
kNew c48 .exact g1 n4 fun l48 g5 n48 =>
(kPtr (ptr l43 (o43 + 0)) fun l _ => g5 l = g1 l) ∧ kAppend v44 (.slice (some ⟨l48, 0, none⟩) 1 1) 6 48 g5 n48 fun v49 g6 n49 =>
kNil a0 fun v50 =>
kPtr v50 fun l51 o51 =>
kSt g6 l51 (o51 + 0) v49 fun g7 =>
aRet K (.tuple #[]) g7 n49)) (
kNil a0 fun v42 =>
kPtr v42 fun l43 o43 =>
kLd g1 l43 (o43 + 0) fun v44 =>
kLdN g1 l4 0 5 fun c45 =>
kFill [(.int .i64 0), (.int .i64 0), (.int .i64 0), (.int .i64 0), (.int .i64 0), (.int .i64 0)] [(0, (some 5), (.agg c45.toArray)), (5, none, a2)] fun c47 =>
kFill (reps 1 [(.int .i64 0), (.int .i64 0), (.int .i64 0), (.int .i64 0), (.int .i64 0), (.int .i64 0)]) [(0, (some 6), (.agg c47.toArray))] fun c48 =>
kNew c48 .exact g1 n4 fun l48 g8 n48 =>
(kPtr (ptr l43 (o43 + 0)) fun l _ => g8 l = g1 l) ∧ kAppend v44 (.slice (some ⟨l48, 0, none⟩) 1 1) 6 48 g8 n48 fun v49 g9 n49 =>
kNil a0 fun v50 =>
kPtr v50 fun l51 o51 =>
kSt g9 l51 (o51 + 0) v49 fun g10 =>
aRet K (.tuple #[]) g10 n49)) (
kNil a0 fun v42 =>
kPtr v42 fun l43 o43 =>
kLd g1 l43 (o43 + 0) fun v44 =>
kLdN g1 l4 0 5 fun c45 =>
kFill [(.int .i64 0), (.int .i64 0), (.int .i64 0), (.int .i64 0), (.int .i64 0), (.int .i64 0)] [(0, (some 5), (.agg c45.toArray)), (5, none, a2)] fun c47 =>
kFill (reps 1 [(.int .i64 0), (.int .i64 0), (.int .i64 0), (.int .i64 0), (.int .i64 0), (.int .i64 0)]) [(0, (some 6), (.agg c47.toArray))] fun c48 =>
kNew c48 .exact g1 n4 fun l48 g11 n48 =>
(kPtr (ptr l43 (o43 + 0)) fun l _ => g11 l = g1 l) ∧ kAppend v44 (.slice (some ⟨l48, 0, none⟩) 1 1) 6 48 g11 n48 fun v49 g12 n49 =>
kNil a0 fun v50 =>
kPtr v50 fun l51 o51 =>
kSt g12 l51 (o51 + 0) v49 fun g13 =>
aRet K (.tuple #[]) g13 n49)) (
kNil a0 fun v42 =>
kPtr v42 fun l43 o43 =>
kLd g1 l43 (o43 + 0) fun v44 =>
kLdN g1 l4 0 5 fun c45 =>
kFill [(.int .i64 0), (.int .i64 0), (.int .i64 0), (.int .i64 0), (.int .i64 0), (.int .i64 0)] [(0, (some 5), (.agg c45.toArray)), (5, none, a2)] fun c47 =>
kFill (reps 1 [(.int .i64 0), (.int .i64 0), (.int .i64 0), (.int .i64 0), (.int .i64 0), (.int .i64 0)]) [(0, (some 6), (.agg c47.toArray))] fun c48 =>
kNew c48 .exact g1 n4 fun l48 g14 n48 =>
(kPtr (ptr l43 (o43 + 0)) fun l _ => g14 l = g1 l) ∧ kAppend v44 (.slice (some ⟨l48, 0, none⟩) 1 1) 6 48 g14 n48 fun v49 g15 n49 =>
kNil a0 fun v50 =>
kPtr v50 fun l51 o51 =>
kSt g15 l51 (o51 + 0) v49 fun g16 =>
aRet K (.tuple #[]) g16 n49)))

theorem bellowsref21_Builder_Jump_eq (C : CT) (a0 a1 a2 : Value) (g : G) (n : Nat) (K : Cont) : bellowsref21_Builder_Jump C a0 a1 a2 g n K = abody Try.prog C bellowsref21_Builder_Jump_id [a0, a1, a2] g n K := by kernel_rfl

/- slices.Clone[[]bellows/api.Ins,bellows/api.Ins] -/
def slices_Clone_api_Ins_api_Ins (C : CT) (a0 : Value) (g : G) (n : Nat) (K : Cont) : Prop :=
kBin .slice .eql a0 (.slice none 0 0) fun v4 =>
kSplit v4 (
aRet K (.slice none 0 0) g n) (
kFill (reps 0 [(.int .i64 0), (.int .i64 0), (.int .i64 0), (.int .i64 0), (.int .i64 0)]) [] fun c5 =>
kNew c5 .exact g n fun l5 g1 n5 =>
kAppend (.slice (some ⟨l5, 0, none⟩) 0 0) a0 5 40 g1 n5 fun v7 g2 n7 =>
aRet K v7 g2 n7)

theorem slices_Clone_api_Ins_api_Ins_eq (C : CT) (a0 : Value) (g : G) (n : Nat) (K : Cont) : slices_Clone_api_Ins_api_Ins C a0 g n K = abody Try.prog C slices_Clone_api_Ins_api_Ins_id [a0] g n K := by kernel_rfl

/- bellows/isa.Encode -/
def isa_Encode (C : CT) (a0 : Value) (g : G) (n : Nat) (K : Cont) : Prop :=
kAgg a0 fun c1 =>
kNew c1 .exact g n fun l1 g1 n1 =>
kLdN g1 l1 0 5 fun c4 =>
C isa_Good_id [(.agg c4.toArray)] g1 n1 fun v5 g2 n5 =>
kUn .not v5 fun v6 =>
kSplit v6 (
aRet K (.tuple #[(.int .u64 0), (.int .i64 11)]) g2 n5) (
kLd g2 l1 (0 + 0) fun v8 =>
kConv .u64 v8 fun v9 =>
kLd g2 l1 (0 + 1) fun v11 =>
kConv .u64 v11 fun v12 =>
kBin .int .shl v12 (.int .u64 8) fun v13 =>
kBin .int .or v9 v13 fun v14 =>
kLd g2 l1 (0 + 2) fun v16 =>
kConv .u64 v16 fun v17 =>
kBin .int .shl v17 (.int .u64 12) fun v18 =>
kBin .int .or v14 v18 fun v19 =>
kLd g2 l1 (0 + 3) fun v21 =>
kConv .u64 v21 fun v22 =>
kBin .int .shl v22 (.int .u64 16) fun v23 =>
kBin .int .or v19 v23 fun v24 =>
kLd g2 l1 (0 + 4) fun v26 =>
kConv .u64 v26 fun v27 =>
kBin .int .shl v27 (.int .u64 32) fun v28 =>
kBin .int .or v24 v28 fun v29 =>
aRet K (.tuple #[v29, (.int .i64 0)]) g2 n5)

theorem isa_Encode_eq (C : CT) (a0 : Value) (g : G) (n : Nat) (K : Cont) : isa_Encode C a0 g n K = abody Try.prog C isa_Encode_id [a0] g n K := by kernel_rfl

/- bellows/bellowsref10.Encode -/
def bellowsref10_Encode_j1 (C : CT) (K : Cont) (t : Env) (g : G) (n : Nat) : Prop :=
kPtr (t 1) fun l14 o14 =>
kLd g l14 (o14 + 0) fun v15 =>
kConv .u64 v15 fun v16 =>
kPtr (t 1) fun l17 o17 =>
kLd g l17 (o17 + 1) fun v18 =>
kConv .u64 v18 fun v19 =>
kBin .int .shl v19 (.int .u64 8) fun v20 =>
kBin .int .add v16 v20 fun v21 =>
kPtr (t 1) fun l22 o22 =>
kLd g l22 (o22 + 2) fun v23 =>
kConv .u64 v23 fun v24 =>
kBin .int .shl v24 (.int .u64 12) fun v25 =>
kBin .int .add v21 v25 fun v26 =>
kPtr (t 1) fun l27 o27 =>
kLd g l27 (o27 + 3) fun v28 =>
kConv .u64 v28 fun v29 =>
kBin .int .shl v29 (.int .u64 16) fun v30 =>
kBin .int .add v26 v30 fun v31 =>
kConv .u64 (t 4) fun v33 =>
kBin .int .shl v33 (.int .u64 32) fun v34 =>
kBin .int .add v31 v34 fun v35 =>
aRet K (.tuple #[v35, (.int .i64 0)]) g n

def bellowsref10_Encode (C : CT) (a0 : Value) (g : G) (n : Nat) (K : Cont) : Prop :=
kAgg a0 fun c1 =>
kNew c1 .exact g n fun l1 g1 n1 =>
kLdN g1 l1 0 5 fun c5 =>
C bellowsref10_Good_id [(.agg c5.toArray)] g1 n1 fun v6 g2 n6 =>
kUn .not v6 fun v7 =>
kSplit v7 (
aRet K (.tuple #[(.int .u64 0), (.int .i64 11)]) g2 n6) (
kLd g2 l1 (0 + 4) fun v9 =>
kBin .int .lss v9 (.int .i64 0) fun v11 =>
kSplit v11 (
kBin .int .add v9 (.int .i64 4294967296) fun v13 =>
bellowsref10_Encode_j1 C K (puts (args0 [a0]) [(1, (ptr l1 0)), (2, (.int .u64 0)), (3, (.int .i64 0)), (5, (.agg c5.toArray)), (6, v6), (7, v7), (8, (ptr l1 (0 + 4))), (9, v9), (4, v9), (10, v9), (11, v11), (12, v9), (13, v13), (4, v13)]) g2 n6) (
bellowsref10_Encode_j1 C K (puts (args0 [a0]) [(1, (ptr l1 0)), (2, (.int .u64 0)), (3, (.int .i64 0)), (5, (.agg c5.toArray)), (6, v6), (7, v7), (8, (ptr l1 (0 + 4))), (9, v9), (4, v9), (10, v9), (11, v11)]) g2 n6))

theorem bellowsref10_Encode_eq (C : CT) (a0 : Value) (g : G) (n : Nat) (K : Cont) : bellowsref10_Encode C a0 g n K = abody Try.prog C bellowsref10_Encode_id [a0] g n K := by kernel_rfl

/- (*bellows/emit.Builder).is -/
def emit_Builder_is (C : CT) (a0 a1 : Value) (g : G) (n : Nat) (K : Cont) : Prop :=
kBin .int .geq a1 (.int .i64 0) fun v6 =>
kSplit v6 (
kNil a0 fun v10 =>
kPtr v10 fun l11 o11 =>
kLd g l11 (o11 + 1) fun v12 =>
kLen v12 fun v13 =>
kBin .int .lss a1 v13 fun v14 =>
aRet K v14 g n) (
aRet K (.bool false) g n)

theorem emit_Builder_is_eq (C : CT) (a0 a1 : Value) (g : G) (n : Nat) (K : Cont) : emit_Builder_is C a0 a1 g n K = abody Try.prog C emit_Builder_is_id [a0, a1] g n K := by kernel_rfl

/- bellows/isa.Good -/
def isa_Good_j2 (C : CT) (K : Cont) (t : Env) (g : G) (n : Nat) : Prop :=
kPtr (t 1) fun l37 o37 =>
kLd g l37 (o37 + 4) fun v38 =>
kBin .int .geq v38 (.int .i64 (-2147483648)) fun v39 =>
kSplit v39 (
kPtr (t 1) fun l41 o41 =>
kLd g l41 (o41 + 4) fun v42 =>
kBin .int .leq v42 (.int .i64 2147483647) fun v43 =>
kSplit v43 (
kPtr (t 1) fun l46 o46 =>
kLd g l46 (o46 + 4) fun v47 =>
kBin .int .geq v47 (.int .i64 0) fun v48 =>
kSplit v48 (
aRet K (.bool true) g n) (
kPtr (t 1) fun l50 o50 =>
kLd g l50 (o50 + 0) fun v51 =>
C isa_jumps_id [v51] g n fun v52 g5 n52 =>
kUn .not v52 fun v53 =>
aRet K v53 g5 n52)) (
aRet K (.bool false) g n)) (
aRet K (.bool false) g n)

def isa_Good_j1 (C : CT) (K : Cont) (t : Env) (g : G) (n : Nat) : Prop :=
kSplit (t 7) (
aRet K (.bool false) g n) (
C strings_Contains_id [(t 3), (.string ⟨#[73]⟩)] g n fun v32 g4 n32 =>
kUn .not v32 fun v33 =>
kSplit v33 (
kPtr (t 1) fun l34 o34 =>
kLd g4 l34 (o34 + 4) fun v35 =>
kBin .int .eql v35 (.int .i64 0) fun v36 =>
aRet K v36 g4 n32) (
isa_Good_j2 C K (puts t [(31, (t 3)), (32, v32), (33, v33), (30, v33)]) g4 n32))

def isa_Good (C : CT) (a0 : Value) (g : G) (n : Nat) (K : Cont) : Prop :=
kAgg a0 fun c1 =>
kNew c1 .exact g n fun l1 g1 n1 =>
kLd g1 l1 (0 + 0) fun v5 =>
C isa_Has_id [v5] g1 n1 fun v6 g2 n6 =>
kLd g2 l1 (0 + 0) fun v9 =>
C isa_is_id [v9] g2 n6 fun v10 g3 n10 =>
kUn .not v10 fun v11 =>
kSplit v11 (
isa_Good_j1 C K (puts (args0 [a0]) [(1, (ptr l1 0)), (2, (.bool false)), (4, (ptr l1 (0 + 0))), (5, v5), (6, v6), (3, v6), (8, (ptr l1 (0 + 0))), (9, v9), (10, v10), (11, v11), (7, v11)]) g3 n10) (
kLd g3 l1 (0 + 1) fun v13 =>
C strings_Contains_id [v6, (.string ⟨#[65]⟩)] g3 n10 fun v15 g6 n15 =>
(kPtr (ptr l1 (0 + 1)) fun l _ => g6 l = g3 l) ∧ C isa_register_id [v13, v15] g6 n15 fun v16 g7 n16 =>
kUn .not v16 fun v17 =>
kSplit v17 (
isa_Good_j1 C K (puts (args0 [a0]) [(1, (ptr l1 0)), (2, (.bool false)), (4, (ptr l1 (0 + 0))), (5, v5), (6, v6), (3, v6), (8, (ptr l1 (0 + 0))), (9, v9), (10, v10), (11, v11), (7, v11), (12, (ptr l1 (0 + 1))), (13, v13), (14, v6), (15, v15), (16, v16), (17, v17), (7, v17)]) g7 n16) (
kLd g7 l1 (0 + 2) fun v19 =>
C strings_Contains_id [v6, (.string ⟨#[66]⟩)] g7 n16 fun v21 g8 n21 =>
(kPtr (ptr l1 (0 + 2)) fun l _ => g8 l = g7 l) ∧ C isa_register_id [v19, v21] g8 n21 fun v22 g9 n22 =>
kUn .not v22 fun v23 =>
kSplit v23 (
isa_Good_j1 C K (puts (args0 [a0]) [(1, (ptr l1 0)), (2, (.bool false)), (4, (ptr l1 (0 + 0))), (5, v5), (6, v6), (3, v6), (8, (ptr l1 (0 + 0))), (9, v9), (10, v10), (11, v11), (7, v11), (12, (ptr l1 (0 + 1))), (13, v13), (14, v6), (15, v15), (16, v16), (17, v17), (7, v17), (18, (ptr l1 (0 + 2))), (19, v19), (20, v6), (21, v21), (22, v22), (23, v23), (7, v23)]) g9 n22) (
kLd g9 l1 (0 + 3) fun v25 =>
C strings_Contains_id [v6, (.string ⟨#[67]⟩)] g9 n22 fun v27 g10 n27 =>
(kPtr (ptr l1 (0 + 3)) fun l _ => g10 l = g9 l) ∧ C isa_register_id [v25, v27] g10 n27 fun v28 g11 n28 =>
kUn .not v28 fun v29 =>
isa_Good_j1 C K (puts (args0 [a0]) [(1, (ptr l1 0)), (2, (.bool false)), (4, (ptr l1 (0 + 0))), (5, v5), (6, v6), (3, v6), (8, (ptr l1 (0 + 0))), (9, v9), (10, v10), (11, v11), (7, v11), (12, (ptr l1 (0 + 1))), (13, v13), (14, v6), (15, v15), (16, v16), (17, v17), (7, v17), (18, (ptr l1 (0 + 2))), (19, v19), (20, v6), (21, v21), (22, v22), (23, v23), (7, v23), (24, (ptr l1 (0 + 3))), (25, v25), (26, v6), (27, v27), (28, v28), (29, v29), (7, v29)]) g11 n28)))

theorem isa_Good_eq (C : CT) (a0 : Value) (g : G) (n : Nat) (K : Cont) : isa_Good C a0 g n K = abody Try.prog C isa_Good_id [a0] g n K := by kernel_rfl

/- bellows/bellowsref10.Good -/
def bellowsref10_Good_j8 (C : CT) (K : Cont) (t : Env) (g : G) (n : Nat) : Prop :=
kBool (t 104) fun b108 =>
kSplit (bif b108 then (t 107) else (.bool false)) (
kUn .not (t 3) fun v111 =>
kSplit v111 (
aRet K (.bool true) g n) (
kPtr (t 1) fun l113 o113 =>
kLd g l113 (o113 + 4) fun v114 =>
kBin .int .geq v114 (.int .i64 0) fun v115 =>
aRet K v115 g n)) (
aRet K (.bool false) g n)

def bellowsref10_Good_j7 (C : CT) (K : Cont) (t : Env) (g : G) (n : Nat) : Prop :=
kBool (t 91) fun b95 =>
kSplit (bif b95 then (.bool true) else (t 94)) (
kPtr (t 1) fun l101 o101 =>
kLd g l101 (o101 + 4) fun v102 =>
kBin .int .geq v102 (.int .i64 (-2147483648)) fun v103 =>
kSplit v103 (
kPtr (t 1) fun l105 o105 =>
kLd g l105 (o105 + 4) fun v106 =>
kBin .int .lss v106 (.int .i64 2147483648) fun v107 =>
bellowsref10_Good_j8 C K (puts t [(95, (bif b95 then (.bool true) else (t 94))), (96, (.bool true)), (97, undef), (98, undef), (99, undef), (100, (.bool true)), (3, (.bool true)), (101, (ptr l101 (o101 + 4))), (102, v102), (103, v103), (104, (.bool true)), (105, (ptr l105 (o105 + 4))), (106, v106), (107, v107)]) g n) (
bellowsref10_Good_j8 C K (puts t [(95, (bif b95 then (.bool true) else (t 94))), (96, (.bool true)), (97, undef), (98, undef), (99, undef), (100, (.bool true)), (3, (.bool true)), (101, (ptr l101 (o101 + 4))), (102, v102), (103, v103), (104, (.bool false)), (105, undef), (106, undef), (107, undef)]) g n)) (
kPtr (t 1) fun l97 o97 =>
kLd g l97 (o97 + 0) fun v98 =>
kBin .int .eql v98 (.int .i64 20) fun v99 =>
kPtr (t 1) fun l101 o101 =>
kLd g l101 (o101 + 4) fun v102 =>
kBin .int .geq v102 (.int .i64 (-2147483648)) fun v103 =>
kSplit v103 (
kPtr (t 1) fun l105 o105 =>
kLd g l105 (o105 + 4) fun v106 =>
kBin .int .lss v106 (.int .i64 2147483648) fun v107 =>
bellowsref10_Good_j8 C K (puts t [(95, (bif b95 then (.bool true) else (t 94))), (96, (.bool false)), (97, (ptr l97 (o97 + 0))), (98, v98), (99, v99), (100, v99), (3, v99), (101, (ptr l101 (o101 + 4))), (102, v102), (103, v103), (104, (.bool true)), (105, (ptr l105 (o105 + 4))), (106, v106), (107, v107)]) g n) (
bellowsref10_Good_j8 C K (puts t [(95, (bif b95 then (.bool true) else (t 94))), (96, (.bool false)), (97, (ptr l97 (o97 + 0))), (98, v98), (99, v99), (100, v99), (3, v99), (101, (ptr l101 (o101 + 4))), (102, v102), (103, v103), (104, (.bool false)), (105, undef), (106, undef), (107, undef)]) g n))

def bellowsref10_Good_j6 (C : CT) (K : Cont) (t : Env) (g : G) (n : Nat) : Prop :=
kBool (t 86) fun b90 =>
kSplit (bif b90 then (.bool true) else (t 89)) (
bellowsref10_Good_j7 C K (puts t [(90, (bif b90 then (.bool true) else (t 89))), (91, (.bool true)), (92, undef), (93, undef), (94, undef)]) g n) (
kPtr (t 1) fun l92 o92 =>
kLd g l92 (o92 + 0) fun v93 =>
kBin .int .eql v93 (.int .i64 19) fun v94 =>
bellowsref10_Good_j7 C K (puts t [(90, (bif b90 then (.bool true) else (t 89))), (91, (.bool false)), (92, (ptr l92 (o92 + 0))), (93, v93), (94, v94)]) g n)

def bellowsref10_Good_j5 (C : CT) (K : Cont) (t : Env) (g : G) (n : Nat) : Prop :=
kBool (t 54) fun b64 =>
kSplit (bif b64 then (.bool true) else (t 63)) (
aRet K (.bool false) g n) (
kPtr (t 1) fun l66 o66 =>
kLd g l66 (o66 + 0) fun v67 =>
C bellowsref10_has_id [v67, (.int .u8 67)] g n fun v68 g4 n68 =>
kUn .not v68 fun v69 =>
kSplit v69 (
kPtr (t 1) fun l71 o71 =>
kLd g4 l71 (o71 + 3) fun v72 =>
kBin .int .neq v72 (.int .i64 0) fun v73 =>
kSplit v73 (
aRet K (.bool false) g4 n68) (
kPtr (t 1) fun l76 o76 =>
kLd g4 l76 (o76 + 0) fun v77 =>
C bellowsref10_has_id [v77, (.int .u8 73)] g4 n68 fun v78 g5 n78 =>
kUn .not v78 fun v79 =>
kSplit v79 (
kPtr (t 1) fun l80 o80 =>
kLd g5 l80 (o80 + 4) fun v81 =>
kBin .int .eql v81 (.int .i64 0) fun v82 =>
aRet K v82 g5 n78) (
kPtr (t 1) fun l83 o83 =>
kLd g5 l83 (o83 + 0) fun v84 =>
kBin .int .eql v84 (.int .i64 17) fun v85 =>
kSplit v85 (
bellowsref10_Good_j6 C K (puts t [(64, (bif b64 then (.bool true) else (t 63))), (65, (.bool false)), (66, (ptr l66 (o66 + 0))), (67, v67), (68, v68), (69, v69), (70, (.bool true)), (71, (ptr l71 (o71 + 3))), (72, v72), (73, v73), (74, v73), (75, v73), (76, (ptr l76 (o76 + 0))), (77, v77), (78, v78), (79, v79), (83, (ptr l83 (o83 + 0))), (84, v84), (85, v85), (86, (.bool true)), (87, undef), (88, undef), (89, undef)]) g5 n78) (
kPtr (t 1) fun l87 o87 =>
kLd g5 l87 (o87 + 0) fun v88 =>
kBin .int .eql v88 (.int .i64 18) fun v89 =>
bellowsref10_Good_j6 C K (puts t [(64, (bif b64 then (.bool true) else (t 63))), (65, (.bool false)), (66, (ptr l66 (o66 + 0))), (67, v67), (68, v68), (69, v69), (70, (.bool true)), (71, (ptr l71 (o71 + 3))), (72, v72), (73, v73), (74, v73), (75, v73), (76, (ptr l76 (o76 + 0))), (77, v77), (78, v78), (79, v79), (83, (ptr l83 (o83 + 0))), (84, v84), (85, v85), (86, (.bool false)), (87, (ptr l87 (o87 + 0))), (88, v88), (89, v89)]) g5 n78)))) (
kPtr (t 1) fun l76 o76 =>
kLd g4 l76 (o76 + 0) fun v77 =>
C bellowsref10_has_id [v77, (.int .u8 73)] g4 n68 fun v78 g6 n78 =>
kUn .not v78 fun v79 =>
kSplit v79 (
kPtr (t 1) fun l80 o80 =>
kLd g6 l80 (o80 + 4) fun v81 =>
kBin .int .eql v81 (.int .i64 0) fun v82 =>
aRet K v82 g6 n78) (
kPtr (t 1) fun l83 o83 =>
kLd g6 l83 (o83 + 0) fun v84 =>
kBin .int .eql v84 (.int .i64 17) fun v85 =>
kSplit v85 (
bellowsref10_Good_j6 C K (puts t [(64, (bif b64 then (.bool true) else (t 63))), (65, (.bool false)), (66, (ptr l66 (o66 + 0))), (67, v67), (68, v68), (69, v69), (70, (.bool false)), (71, undef), (72, undef), (73, undef), (74, (.bool false)), (75, (.bool false)), (76, (ptr l76 (o76 + 0))), (77, v77), (78, v78), (79, v79), (83, (ptr l83 (o83 + 0))), (84, v84), (85, v85), (86, (.bool true)), (87, undef), (88, undef), (89, undef)]) g6 n78) (
kPtr (t 1) fun l87 o87 =>
kLd g6 l87 (o87 + 0) fun v88 =>
kBin .int .eql v88 (.int .i64 18) fun v89 =>
bellowsref10_Good_j6 C K (puts t [(64, (bif b64 then (.bool true) else (t 63))), (65, (.bool false)), (66, (ptr l66 (o66 + 0))), (67, v67), (68, v68), (69, v69), (70, (.bool false)), (71, undef), (72, undef), (73, undef), (74, (.bool false)), (75, (.bool false)), (76, (ptr l76 (o76 + 0))), (77, v77), (78, v78), (79, v79), (83, (ptr l83 (o83 + 0))), (84, v84), (85, v85), (86, (.bool false)), (87, (ptr l87 (o87 + 0))), (88, v88), (89, v89)]) g6 n78))))

def bellowsref10_Good_j4 (C : CT) (K : Cont) (t : Env) (g : G) (n : Nat) : Prop :=
kBool (t 43) fun b53 =>
kSplit (bif b53 then (.bool true) else (t 52)) (
bellowsref10_Good_j5 C K (puts t [(53, (bif b53 then (.bool true) else (t 52))), (54, (.bool true)), (55, undef), (56, undef), (57, undef), (58, undef), (59, undef), (60, undef), (61, undef), (62, undef), (63, undef)]) g n) (
kPtr (t 1) fun l55 o55 =>
kLd g l55 (o55 + 0) fun v56 =>
C bellowsref10_has_id [v56, (.int .u8 67)] g n fun v57 g7 n57 =>
kSplit v57 (
kPtr (t 1) fun l59 o59 =>
kLd g7 l59 (o59 + 3) fun v60 =>
C bellowsref10_reg_id [v60] g7 n57 fun v61 g8 n61 =>
kUn .not v61 fun v62 =>
bellowsref10_Good_j5 C K (puts t [(53, (bif b53 then (.bool true) else (t 52))), (54, (.bool false)), (55, (ptr l55 (o55 + 0))), (56, v56), (57, v57), (58, (.bool true)), (59, (ptr l59 (o59 + 3))), (60, v60), (61, v61), (62, v62), (63, v62)]) g8 n61) (
bellowsref10_Good_j5 C K (puts t [(53, (bif b53 then (.bool true) else (t 52))), (54, (.bool false)), (55, (ptr l55 (o55 + 0))), (56, v56), (57, v57), (58, (.bool false)), (59, undef), (60, undef), (61, undef), (62, undef), (63, (.bool false))]) g7 n57))

def bellowsref10_Good_j3 (C : CT) (K : Cont) (t : Env) (g : G) (n : Nat) : Prop :=
kBool (t 32) fun b42 =>
kSplit (bif b42 then (.bool true) else (t 41)) (
bellowsref10_Good_j4 C K (puts t [(42, (bif b42 then (.bool true) else (t 41))), (43, (.bool true)), (44, undef), (45, undef), (46, undef), (47, undef), (48, undef), (49, undef), (50, undef), (51, undef), (52, undef)]) g n) (
kPtr (t 1) fun l44 o44 =>
kLd g l44 (o44 + 0) fun v45 =>
C bellowsref10_has_id [v45, (.int .u8 66)] g n fun v46 g9 n46 =>
kUn .not v46 fun v47 =>
kSplit v47 (
kPtr (t 1) fun l49 o49 =>
kLd g9 l49 (o49 + 2) fun v50 =>
kBin .int .neq v50 (.int .i64 0) fun v51 =>
bellowsref10_Good_j4 C K (puts t [(42, (bif b42 then (.bool true) else (t 41))), (43, (.bool false)), (44, (ptr l44 (o44 + 0))), (45, v45), (46, v46), (47, v47), (48, (.bool true)), (49, (ptr l49 (o49 + 2))), (50, v50), (51, v51), (52, v51)]) g9 n46) (
bellowsref10_Good_j4 C K (puts t [(42, (bif b42 then (.bool true) else (t 41))), (43, (.bool false)), (44, (ptr l44 (o44 + 0))), (45, v45), (46, v46), (47, v47), (48, (.bool false)), (49, undef), (50, undef), (51, undef), (52, (.bool false))]) g9 n46))

def bellowsref10_Good_j2 (C : CT) (K : Cont) (t : Env) (g : G) (n : Nat) : Prop :=
kBool (t 21) fun b31 =>
kSplit (bif b31 then (.bool true) else (t 30)) (
bellowsref10_Good_j3 C K (puts t [(31, (bif b31 then (.bool true) else (t 30))), (32, (.bool true)), (33, undef), (34, undef), (35, undef), (36, undef), (37, undef), (38, undef), (39, undef), (40, undef), (41, undef)]) g n) (
kPtr (t 1) fun l33 o33 =>
kLd g l33 (o33 + 0) fun v34 =>
C bellowsref10_has_id [v34, (.int .u8 66)] g n fun v35 g10 n35 =>
kSplit v35 (
kPtr (t 1) fun l37 o37 =>
kLd g10 l37 (o37 + 2) fun v38 =>
C bellowsref10_reg_id [v38] g10 n35 fun v39 g11 n39 =>
kUn .not v39 fun v40 =>
bellowsref10_Good_j3 C K (puts t [(31, (bif b31 then (.bool true) else (t 30))), (32, (.bool false)), (33, (ptr l33 (o33 + 0))), (34, v34), (35, v35), (36, (.bool true)), (37, (ptr l37 (o37 + 2))), (38, v38), (39, v39), (40, v40), (41, v40)]) g11 n39) (
bellowsref10_Good_j3 C K (puts t [(31, (bif b31 then (.bool true) else (t 30))), (32, (.bool false)), (33, (ptr l33 (o33 + 0))), (34, v34), (35, v35), (36, (.bool false)), (37, undef), (38, undef), (39, undef), (40, undef), (41, (.bool false))]) g10 n35))

def bellowsref10_Good_j1 (C : CT) (K : Cont) (t : Env) (g : G) (n : Nat) : Prop :=
kBool (t 15) fun b20 =>
kSplit (bif b20 then (t 19) else (.bool false)) (
bellowsref10_Good_j2 C K (puts t [(20, (bif b20 then (t 19) else (.bool false))), (21, (.bool true)), (22, undef), (23, undef), (24, undef), (25, undef), (26, undef), (27, undef), (28, undef), (29, undef), (30, undef)]) g n) (
kPtr (t 1) fun l22 o22 =>
kLd g l22 (o22 + 0) fun v23 =>
C bellowsref10_has_id [v23, (.int .u8 65)] g n fun v24 g12 n24 =>
kUn .not v24 fun v25 =>
kSplit v25 (
kPtr (t 1) fun l27 o27 =>
kLd g12 l27 (o27 + 1) fun v28 =>
kBin .int .neq v28 (.int .i64 0) fun v29 =>
bellowsref10_Good_j2 C K (puts t [(20, (bif b20 then (t 19) else (.bool false))), (21, (.bool false)), (22, (ptr l22 (o22 + 0))), (23, v23), (24, v24), (25, v25), (26, (.bool true)), (27, (ptr l27 (o27 + 1))), (28, v28), (29, v29), (30, v29)]) g12 n24) (
bellowsref10_Good_j2 C K (puts t [(20, (bif b20 then (t 19) else (.bool false))), (21, (.bool false)), (22, (ptr l22 (o22 + 0))), (23, v23), (24, v24), (25, v25), (26, (.bool false)), (27, undef), (28, undef), (29, undef), (30, (.bool false))]) g12 n24))

def bellowsref10_Good (C : CT) (a0 : Value) (g : G) (n : Nat) (K : Cont) : Prop :=
kAgg a0 fun c1 =>
kNew c1 .exact g n fun l1 g1 n1 =>
kLd g1 l1 (0 + 0) fun v5 =>
kBin .int .lss v5 (.int .i64 0) fun v6 =>
kSplit v6 (
aRet K (.bool false) g1 n1) (
kLd g1 l1 (0 + 0) fun v9 =>
kBin .int .gtr v9 (.int .i64 22) fun v10 =>
kSplit v10 (
aRet K (.bool false) g1 n1) (
kLd g1 l1 (0 + 0) fun v13 =>
C bellowsref10_has_id [v13, (.int .u8 65)] g1 n1 fun v14 g2 n14 =>
kSplit v14 (
kLd g2 l1 (0 + 1) fun v17 =>
C bellowsref10_reg_id [v17] g2 n14 fun v18 g3 n18 =>
kUn .not v18 fun v19 =>
bellowsref10_Good_j1 C K (puts (args0 [a0]) [(1, (ptr l1 0)), (2, (.bool false)), (4, (ptr l1 (0 + 0))), (5, v5), (6, v6), (7, (.bool false)), (8, (ptr l1 (0 + 0))), (9, v9), (10, v10), (11, v10), (12, (ptr l1 (0 + 0))), (13, v13), (14, v14), (15, (.bool true)), (16, (ptr l1 (0 + 1))), (17, v17), (18, v18), (19, v19)]) g3 n18) (
bellowsref10_Good_j1 C K (puts (args0 [a0]) [(1, (ptr l1 0)), (2, (.bool false)), (4, (ptr l1 (0 + 0))), (5, v5), (6, v6), (7, (.bool false)), (8, (ptr l1 (0 + 0))), (9, v9), (10, v10), (11, v10), (12, (ptr l1 (0 + 0))), (13, v13), (14, v14), (15, (.bool false)), (16, undef), (17, undef), (18, undef), (19, undef)]) g2 n14)))

theorem bellowsref10_Good_eq (C : CT) (a0 : Value) (g : G) (n : Nat) (K : Cont) : bellowsref10_Good C a0 g n K = abody Try.prog C bellowsref10_Good_id [a0] g n K := by kernel_rfl

/- bellows/isa.Has -/
def isa_Has (C : CT) (a0 : Value) (g : G) (n : Nat) (K : Cont) : Prop :=
C isa_is_id [a0] g n fun v5 g1 n5 =>
kUn .not v5 fun v6 =>
kSplit v6 (
aRet K (.string ⟨#[]⟩) g1 n5) (
kNew [(.int .u32 0), (.int .i32 0), (.int .u32 0), (.string .empty), (.string .empty), (.string .empty), (.string .empty), (.string .empty), (.string .empty), (.string .empty), (.string .empty), (.string .empty), (.string .empty), (.string .empty), (.string .empty), (.string .empty), (.string .empty), (.string .empty), (.string .empty), (.string .empty), (.string .empty), (.string .empty), (.string .empty), (.string .empty), (.string .empty), (.string .empty)] .exact g1 n5 fun l3 g2 n3 =>
C sync_Once_Do_id [(ptr l3 (0 + 0)), (.func (.func isa_table_fill_id) #[(ptr l3 0)] #[])] g2 n3 fun v9 g3 n9 =>
kIndexArr (ptr l3 (0 + 3)) a0 23 1 fun v12 =>
kPtr v12 fun l13 o13 =>
kLd g3 l13 o13 fun v13 =>
aRet K v13 g3 n9)

theorem isa_Has_eq (C : CT) (a0 : Value) (g : G) (n : Nat) (K : Cont) : isa_Has C a0 g n K = abody Try.prog C isa_Has_id [a0] g n K := by kernel_rfl

/- bellows/isa.is -/
def isa_is (C : CT) (a0 : Value) (g : G) (n : Nat) (K : Cont) : Prop :=
kBin .int .geq a0 (.int .i64 0) fun v4 =>
kSplit v4 (
kBin .int .leq a0 (.int .i64 22) fun v7 =>
aRet K v7 g n) (
aRet K (.bool false) g n)

theorem isa_is_eq (C : CT) (a0 : Value) (g : G) (n : Nat) (K : Cont) : isa_is C a0 g n K = abody Try.prog C isa_is_id [a0] g n K := by kernel_rfl

/- bellows/isa.register -/
def isa_register (C : CT) (a0 a1 : Value) (g : G) (n : Nat) (K : Cont) : Prop :=
kBin .int .eql a0 (.int .i64 0) fun v6 =>
kSplit v6 (
aRet K (.bool true) g n) (
kSplit a1 (
kBin .int .gtr a0 (.int .i64 0) fun v11 =>
kSplit v11 (
kBin .int .lss a0 (.int .i64 8) fun v15 =>
aRet K v15 g n) (
aRet K (.bool false) g n)) (
aRet K (.bool false) g n))

theorem isa_register_eq (C : CT) (a0 a1 : Value) (g : G) (n : Nat) (K : Cont) : isa_register C a0 a1 g n K = abody Try.prog C isa_register_id [a0, a1] g n K := by kernel_rfl

/- strings.Contains -/
def strings_Contains (C : CT) (a0 a1 : Value) (g : G) (n : Nat) (K : Cont) : Prop :=
C strings_Index_id [a0, a1] g n fun v7 g1 n7 =>
kBin .int .geq v7 (.int .i64 0) fun v8 =>
aRet K v8 g1 n7

theorem strings_Contains_eq (C : CT) (a0 a1 : Value) (g : G) (n : Nat) (K : Cont) : strings_Contains C a0 a1 g n K = abody Try.prog C strings_Contains_id [a0, a1] g n K := by kernel_rfl

/- bellows/isa.jumps -/
def isa_jumps (C : CT) (a0 : Value) (g : G) (n : Nat) (K : Cont) : Prop :=
kBin .int .geq a0 (.int .i64 17) fun v4 =>
kSplit v4 (
kBin .int .leq a0 (.int .i64 20) fun v7 =>
aRet K v7 g n) (
aRet K (.bool false) g n)

theorem isa_jumps_eq (C : CT) (a0 : Value) (g : G) (n : Nat) (K : Cont) : isa_jumps C a0 g n K = abody Try.prog C isa_jumps_id [a0] g n K := by kernel_rfl

/- bellows/bellowsref10.has -/
def bellowsref10_has_l1 (C : CT) (K : Cont) (I_l1 : ECont) (t : Env) (g : G) (n : Nat) : Prop :=
kLenS (t 5) fun v11 =>
kBin .int .lss (t 6) v11 fun v12 =>
kSplit v12 (
kIdxS (t 5) (t 6) fun v17 =>
kBin .int .eql v17 (t 1) fun v19 =>
kSplit v19 (
aRet K (.bool true) g n) (
kBin .int .add (t 6) (.int .i64 1) fun v14 =>
I_l1 (puts t [(9, (t 6)), (10, (t 5)), (11, v11), (12, v12), (15, (t 5)), (16, (t 6)), (17, v17), (18, (t 1)), (19, v19), (13, (t 6)), (14, v14), (6, v14)]) g n)) (
aRet K (.bool false) g n)

def bellowsref10_has (C : CT) (a0 a1 : Value) (g : G) (n : Nat) (K : Cont) : Prop :=
C bellowsref10_Has_id [a0] g n fun v8 g1 n8 =>
lfp (bellowsref10_has_l1 C K) (puts (args0 [a0, a1]) [(4, (.bool false)), (7, a0), (8, v8), (5, v8), (6, (.int .i64 0))]) g1 n8

theorem bellowsref10_has_eq (C : CT) (a0 a1 : Value) (g : G) (n : Nat) (K : Cont) : bellowsref10_has C a0 a1 g n K = abody Try.prog C bellowsref10_has_id [a0, a1] g n K := by kernel_rfl

/- bellows/bellowsref10.reg -/
def bellowsref10_reg (C : CT) (a0 : Value) (g : G) (n : Nat) (K : Cont) : Prop :=
kBin .int .geq a0 (.int .i64 0) fun v4 =>
kSplit v4 (
kBin .int .leq a0 (.int .i64 7) fun v7 =>
aRet K v7 g n) (
aRet K (.bool false) g n)

theorem bellowsref10_reg_eq (C : CT) (a0 : Value) (g : G) (n : Nat) (K : Cont) : bellowsref10_reg C a0 g n K = abody Try.prog C bellowsref10_reg_id [a0] g n K := by kernel_rfl

/- (*sync.Once).Do -/
def sync_Once_Do (C : CT) (a0 a1 : Value) (g : G) (n : Nat) (K : Cont) : Prop :=
kNil a0 fun v5 =>
kPtr v5 fun l6 o6 =>
C sync_atomic_Bool_Load_id [(ptr l6 (o6 + 0))] g n fun v7 g1 n7 =>
kUn .not v7 fun v8 =>
kSplit v8 (
C sync_Once_doSlow_id [a0, a1] g1 n7 fun v11 g2 n11 =>
aRet K (.tuple #[]) g2 n11) (
aRet K (.tuple #[]) g1 n7)

theorem sync_Once_Do_eq (C : CT) (a0 a1 : Value) (g : G) (n : Nat) (K : Cont) : sync_Once_Do C a0 a1 g n K = abody Try.prog C sync_Once_Do_id [a0, a1] g n K := by kernel_rfl

/- (*bellows/isa.table).fill -/
def isa_table_fill_l7 (C : CT) (K : Cont) (I_l7 : ECont) (t : Env) (g : G) (n : Nat) : Prop :=
kBin .int .lss (t 50) (t 49) fun v51 =>
kSplit v51 (
kIndexAddr (t 48) (t 50) 1 fun v52 =>
kPtr v52 fun l53 o53 =>
kLd g l53 o53 fun v53 =>
kNil (t 0) fun v56 =>
kPtr v56 fun l57 o57 =>
kIndexArr (ptr l57 (o57 + 3)) v53 23 1 fun v58 =>
kPtr v58 fun lg13 og13 =>
kSt g lg13 og13 (.string ⟨#[66, 73]⟩) fun g13 =>
kBin .int .add (t 50) (.int .i64 1) fun v59 =>
I_l7 (puts t [(51, v51), (52, v52), (53, v53), (9, v53), (54, (t 0)), (55, v53), (56, v56), (57, (ptr l57 (o57 + 3))), (58, v58), (59, v59), (50, v59)]) g13 n) (
aRet K (.tuple #[]) g n)

def isa_table_fill_j6 (C : CT) (K : Cont) (t : Env) (g : G) (n : Nat) : Prop :=
kFill (reps 3 [(.int .i64 0)]) [(0, none, (.int .i64 12)), (1, none, (.int .i64 13)), (2, none, (.int .i64 14))] fun c48 =>
kNew c48 .exact g n fun l48 g12 n48 =>
kLen (.slice (some ⟨l48, 0, none⟩) 3 3) fun v49 =>
lfp (isa_table_fill_l7 C K) (puts t [(48, (.slice (some ⟨l48, 0, none⟩) 3 3)), (49, v49), (50, (.int .i64 0))]) g12 n48

def isa_table_fill_l5 (C : CT) (K : Cont) (I_l5 : ECont) (t : Env) (g : G) (n : Nat) : Prop :=
kBin .int .lss (t 38) (t 37) fun v39 =>
kSplit v39 (
kIndexAddr (t 36) (t 38) 1 fun v40 =>
kPtr v40 fun l41 o41 =>
kLd g l41 o41 fun v41 =>
kNil (t 0) fun v44 =>
kPtr v44 fun l45 o45 =>
kIndexArr (ptr l45 (o45 + 3)) v41 23 1 fun v46 =>
kPtr v46 fun lg11 og11 =>
kSt g lg11 og11 (.string ⟨#[65, 66, 73]⟩) fun g11 =>
kBin .int .add (t 38) (.int .i64 1) fun v47 =>
I_l5 (puts t [(39, v39), (40, v40), (41, v41), (7, v41), (42, (t 0)), (43, v41), (44, v44), (45, (ptr l45 (o45 + 3))), (46, v46), (47, v47), (38, v47)]) g11 n) (
isa_table_fill_j6 C K (puts t [(39, v39)]) g n)

def isa_table_fill_j4 (C : CT) (K : Cont) (t : Env) (g : G) (n : Nat) : Prop :=
kFill (reps 5 [(.int .i64 0)]) [(0, none, (.int .i64 8)), (1, none, (.int .i64 9)), (2, none, (.int .i64 18)), (3, none, (.int .i64 19)), (4, none, (.int .i64 20))] fun c36 =>
kNew c36 .exact g n fun l36 g10 n36 =>
kLen (.slice (some ⟨l36, 0, none⟩) 5 5) fun v37 =>
lfp (isa_table_fill_l5 C K) (puts t [(36, (.slice (some ⟨l36, 0, none⟩) 5 5)), (37, v37), (38, (.int .i64 0))]) g10 n36

def isa_table_fill_l3 (C : CT) (K : Cont) (I_l3 : ECont) (t : Env) (g : G) (n : Nat) : Prop :=
kBin .int .lss (t 26) (t 25) fun v27 =>
kSplit v27 (
kIndexAddr (t 24) (t 26) 1 fun v28 =>
kPtr v28 fun l29 o29 =>
kLd g l29 o29 fun v29 =>
kNil (t 0) fun v32 =>
kPtr v32 fun l33 o33 =>
kIndexArr (ptr l33 (o33 + 3)) v29 23 1 fun v34 =>
kPtr v34 fun lg9 og9 =>
kSt g lg9 og9 (.string ⟨#[65, 66, 67]⟩) fun g9 =>
kBin .int .add (t 26) (.int .i64 1) fun v35 =>
I_l3 (puts t [(27, v27), (28, v28), (29, v29), (5, v29), (30, (t 0)), (31, v29), (32, v32), (33, (ptr l33 (o33 + 3))), (34, v34), (35, v35), (26, v35)]) g9 n) (
isa_table_fill_j4 C K (puts t [(27, v27)]) g n)

def isa_table_fill_j2 (C : CT) (K : Cont) (t : Env) (g : G) (n : Nat) : Prop :=
kFill (reps 8 [(.int .i64 0)]) [(0, none, (.int .i64 2)), (1, none, (.int .i64 3)), (2, none, (.int .i64 4)), (3, none, (.int .i64 5)), (4, none, (.int .i64 6)), (5, none, (.int .i64 7)), (6, none, (.int .i64 10)), (7, none, (.int .i64 11))] fun c24 =>
kNew c24 .exact g n fun l24 g8 n24 =>
kLen (.slice (some ⟨l24, 0, none⟩) 8 8) fun v25 =>
lfp (isa_table_fill_l3 C K) (puts t [(24, (.slice (some ⟨l24, 0, none⟩) 8 8)), (25, v25), (26, (.int .i64 0))]) g8 n24

def isa_table_fill_l1 (C : CT) (K : Cont) (I_l1 : ECont) (t : Env) (g : G) (n : Nat) : Prop :=
kNext (t 12) g fun v13 g6 =>
kExtract v13 0 fun v14 =>
kSplit v14 (
kEntry (t 12) g6 fun v15 =>
kExtract v15 0 fun v16 =>
kExtract v15 1 fun v17 =>
kNil (t 0) fun v21 =>
kPtr v21 fun l22 o22 =>
kIndexArr (ptr l22 (o22 + 3)) v16 23 1 fun v23 =>
kPtr v23 fun lg7 og7 =>
kSt g6 lg7 og7 v17 fun g7 =>
I_l1 (puts t [(13, v13), (14, v14), (15, v15), (16, v16), (17, v17), (2, v16), (3, v17), (18, (t 0)), (19, v16), (20, v17), (21, v21), (22, (ptr l22 (o22 + 3))), (23, v23)]) g7 n) (
isa_table_fill_j2 C K (puts t [(13, v13), (14, v14)]) g6 n)

def isa_table_fill (C : CT) (a0 : Value) (g : G) (n : Nat) (K : Cont) : Prop :=
kNewB (.map []) g n fun l10 g1 n10 =>
kMapSet .i64 (.map (some l10)) (.int .i64 1) (.string ⟨#[65, 73]⟩) g1 fun g2 =>
kMapSet .i64 (.map (some l10)) (.int .i64 17) (.string ⟨#[73]⟩) g2 fun g3 =>
kMapSet .i64 (.map (some l10)) (.int .i64 21) (.string ⟨#[65]⟩) g3 fun g4 =>
kRange (.map (some l10)) g4 n10 fun l12 g5 n12 =>
lfp (isa_table_fill_l1 C K) (puts (args0 [a0]) [(10, (.map (some l10))), (11, (.map (some l10))), (12, (ptr l12 0))]) g5 n12

theorem isa_table_fill_eq (C : CT) (a0 : Value) (g : G) (n : Nat) (K : Cont) : isa_table_fill C a0 g n K = abody Try.prog C isa_table_fill_id [a0] g n K := by kernel_rfl

/- strings.Index -/
def strings_Index (C : CT) (a0 a1 : Value) (g : G) (n : Nat) (K : Cont) : Prop :=
C internal_stringslite_Index_id [a0, a1] g n fun v7 g1 n7 =>
aRet K v7 g1 n7

theorem strings_Index_eq (C : CT) (a0 a1 : Value) (g : G) (n : Nat) (K : Cont) : strings_Index C a0 a1 g n K = abody Try.prog C strings_Index_id [a0, a1] g n K := by kernel_rfl

/- bellows/bellowsref10.Has -/
def bellowsref10_Has_j3 (C : CT) (K : Cont) (t : Env) (g : G) (n : Nat) : Prop :=
kSplit (t 21) (
aRet K (.string ⟨#[66, 73]⟩) g n) (
kBin .int .eql (t 3) (.int .i64 17) fun v26 =>
kSplit v26 (
aRet K (.string ⟨#[73]⟩) g n) (
kBin .int .eql (t 3) (.int .i64 21) fun v28 =>
kSplit v28 (
aRet K (.string ⟨#[65]⟩) g n) (
aRet K (.string ⟨#[]⟩) g n)))

def bellowsref10_Has_j2 (C : CT) (K : Cont) (t : Env) (g : G) (n : Nat) : Prop :=
kSplit (t 15) (
aRet K (.string ⟨#[65, 66, 73]⟩) g n) (
kBin .int .eql (t 3) (.int .i64 12) fun v22 =>
kSplit v22 (
bellowsref10_Has_j3 C K (puts t [(22, v22), (21, v22)]) g n) (
kBin .int .eql (t 3) (.int .i64 13) fun v23 =>
kSplit v23 (
bellowsref10_Has_j3 C K (puts t [(22, v22), (21, v22), (23, v23), (21, v23)]) g n) (
kBin .int .eql (t 3) (.int .i64 14) fun v24 =>
bellowsref10_Has_j3 C K (puts t [(22, v22), (21, v22), (23, v23), (21, v23), (24, v24), (21, v24)]) g n)))

def bellowsref10_Has_j1 (C : CT) (K : Cont) (t : Env) (g : G) (n : Nat) : Prop :=
kSplit (t 6) (
aRet K (.string ⟨#[65, 66, 67]⟩) g n) (
kBin .int .eql (t 3) (.int .i64 8) fun v16 =>
kSplit v16 (
bellowsref10_Has_j2 C K (puts t [(16, v16), (15, v16)]) g n) (
kBin .int .eql (t 3) (.int .i64 9) fun v17 =>
kSplit v17 (
bellowsref10_Has_j2 C K (puts t [(16, v16), (15, v16), (17, v17), (15, v17)]) g n) (
kBin .int .eql (t 3) (.int .i64 18) fun v18 =>
kSplit v18 (
bellowsref10_Has_j2 C K (puts t [(16, v16), (15, v16), (17, v17), (15, v17), (18, v18), (15, v18)]) g n) (
kBin .int .eql (t 3) (.int .i64 19) fun v19 =>
kSplit v19 (
bellowsref10_Has_j2 C K (puts t [(16, v16), (15, v16), (17, v17), (15, v17), (18, v18), (15, v18), (19, v19), (15, v19)]) g n) (
kBin .int .eql (t 3) (.int .i64 20) fun v20 =>
bellowsref10_Has_j2 C K (puts t [(16, v16), (15, v16), (17, v17), (15, v17), (18, v18), (15, v18), (19, v19), (15, v19), (20, v20), (15, v20)]) g n)))))

def bellowsref10_Has (C : CT) (a0 : Value) (g : G) (n : Nat) (K : Cont) : Prop :=
kBin .int .eql a0 (.int .i64 1) fun v5 =>
kSplit v5 (
aRet K (.string ⟨#[65, 73]⟩) g n) (
kBin .int .eql a0 (.int .i64 2) fun v7 =>
kSplit v7 (
bellowsref10_Has_j1 C K (puts (args0 [a0]) [(2, (.string ⟨#[]⟩)), (3, a0), (5, v5), (4, v5), (7, v7), (6, v7)]) g n) (
kBin .int .eql a0 (.int .i64 3) fun v8 =>
kSplit v8 (
bellowsref10_Has_j1 C K (puts (args0 [a0]) [(2, (.string ⟨#[]⟩)), (3, a0), (5, v5), (4, v5), (7, v7), (6, v7), (8, v8), (6, v8)]) g n) (
kBin .int .eql a0 (.int .i64 4) fun v9 =>
kSplit v9 (
bellowsref10_Has_j1 C K (puts (args0 [a0]) [(2, (.string ⟨#[]⟩)), (3, a0), (5, v5), (4, v5), (7, v7), (6, v7), (8, v8), (6, v8), (9, v9), (6, v9)]) g n) (
kBin .int .eql a0 (.int .i64 5) fun v10 =>
kSplit v10 (
bellowsref10_Has_j1 C K (puts (args0 [a0]) [(2, (.string ⟨#[]⟩)), (3, a0), (5, v5), (4, v5), (7, v7), (6, v7), (8, v8), (6, v8), (9, v9), (6, v9), (10, v10), (6, v10)]) g n) (
kBin .int .eql a0 (.int .i64 6) fun v11 =>
kSplit v11 (
bellowsref10_Has_j1 C K (puts (args0 [a0]) [(2, (.string ⟨#[]⟩)), (3, a0), (5, v5), (4, v5), (7, v7), (6, v7), (8, v8), (6, v8), (9, v9), (6, v9), (10, v10), (6, v10), (11, v11), (6, v11)]) g n) (
kBin .int .eql a0 (.int .i64 7) fun v12 =>
kSplit v12 (
bellowsref10_Has_j1 C K (puts (args0 [a0]) [(2, (.string ⟨#[]⟩)), (3, a0), (5, v5), (4, v5), (7, v7), (6, v7), (8, v8), (6, v8), (9, v9), (6, v9), (10, v10), (6, v10), (11, v11), (6, v11), (12, v12), (6, v12)]) g n) (
kBin .int .eql a0 (.int .i64 10) fun v13 =>
kSplit v13 (
bellowsref10_Has_j1 C K (puts (args0 [a0]) [(2, (.string ⟨#[]⟩)), (3, a0), (5, v5), (4, v5), (7, v7), (6, v7), (8, v8), (6, v8), (9, v9), (6, v9), (10, v10), (6, v10), (11, v11), (6, v11), (12, v12), (6, v12), (13, v13), (6, v13)]) g n) (
kBin .int .eql a0 (.int .i64 11) fun v14 =>
bellowsref10_Has_j1 C K (puts (args0 [a0]) [(2, (.string ⟨#[]⟩)), (3, a0), (5, v5), (4, v5), (7, v7), (6, v7), (8, v8), (6, v8), (9, v9), (6, v9), (10, v10), (6, v10), (11, v11), (6, v11), (12, v12), (6, v12), (13, v13), (6, v13), (14, v14), (6, v14)]) g n))))))))

theorem bellowsref10_Has_eq (C : CT) (a0 : Value) (g : G) (n : Nat) (K : Cont) : bellowsref10_Has C a0 g n K = abody Try.prog C bellowsref10_Has_id [a0] g n K := by kernel_rfl

/- (*sync/atomic.Bool).Load -/
def sync_atomic_Bool_Load (C : CT) (a0 : Value) (g : G) (n : Nat) (K : Cont) : Prop :=
kNil a0 fun v4 =>
kPtr v4 fun l5 o5 =>
C sync_atomic_LoadUint32_id [(ptr l5 (o5 + 0))] g n fun v6 g1 n6 =>
kBin .int .neq v6 (.int .u32 0) fun v7 =>
aRet K v7 g1 n6

theorem sync_atomic_Bool_Load_eq (C : CT) (a0 : Value) (g : G) (n : Nat) (K : Cont) : sync_atomic_Bool_Load C a0 g n K = abody Try.prog C sync_atomic_Bool_Load_id [a0] g n K := by kernel_rfl

/- internal/stringslite.Index -/
def internal_stringslite_Index (C : CT) (a0 a1 : Value) (g : G) (n : Nat) (K : Cont) : Prop :=
kLenS a1 fun v15 =>
kBin .int .eql v15 (.int .i64 0) fun v18 =>
kSplit v18 (
aRet K (.int .i64 0) g n) (
kBin .str .eql a1 a0 fun v22 =>
kSplit v22 (
aRet K (.int .i64 0) g n) (
kBin .int .eql v15 (.int .i64 1) fun v26 =>
kSplit v26 (
kIdxS a1 (.int .i64 0) fun v29 =>
C internal_stringslite_IndexByte_id [a0, v29] g n fun v30 g1 n30 =>
aRet K v30 g1 n30) (
kLenS a0 fun v34 =>
kBin .int .geq v15 v34 fun v35 =>
kSplit v35 (
aRet K (.int .i64 (-1)) g n) (
False))))

theorem internal_stringslite_Index_eq (C : CT) (a0 a1 : Value) (g : G) (n : Nat) (K : Cont) : internal_stringslite_Index C a0 a1 g n K = abody Try.prog C internal_stringslite_Index_id [a0, a1] g n K := by kernel_rfl

/- internal/stringslite.IndexByte -/
def internal_stringslite_IndexByte (C : CT) (a0 a1 : Value) (g : G) (n : Nat) (K : Cont) : Prop :=
C internal_bytealg_IndexByteString_id [a0, a1] g n fun v7 g1 n7 =>
aRet K v7 g1 n7

theorem internal_stringslite_IndexByte_eq (C : CT) (a0 a1 : Value) (g : G) (n : Nat) (K : Cont) : internal_stringslite_IndexByte C a0 a1 g n K = abody Try.prog C internal_stringslite_IndexByte_id [a0, a1] g n K := by kernel_rfl

end Go.Proofs.Ytldlimkjhppjbaa.Gen
