import Derived.Test.YtldlimkjhppjbaaProg
import Derived.KernelRfl
import Derived.Test.YtldlimkjhppjbaaAbsC
/- What the machine comes to on each function, printed by program; each equation is checked by the kernel. -/
set_option linter.all false
set_option linter.deprecated false
namespace Go.Proofs.Ytldlimkjhppjbaa.Gen
open Go Go.Proofs.Ytldlimkjhppjbaa.Abs

def bellowslaw29_CrashTells_id : FuncId := 7
def bellowslaw29_CrashGrows_id : FuncId := 8
def bellowskeep_Words_id : FuncId := 16
def serial_Begins_id : FuncId := 18
def bellowsref28_Begins_id : FuncId := 19
def serial_Told_id : FuncId := 20
def bellowsref28_Told_id : FuncId := 21
def bellowskeep_Events_id : FuncId := 22
def bellowslaw27_Fair_id : FuncId := 23
def serial_Check_id : FuncId := 24
def bellowslaw27_Copied_id : FuncId := 25
def bellowsref28_Check_id : FuncId := 26
def bellowskeep_Mod_id : FuncId := 27
def bellowskeep_Begins_id : FuncId := 28
def bellowslaw29_wakes_id : FuncId := 29
def crash_May_id : FuncId := 30
def crash_Sure_id : FuncId := 31
def bellowsref29_May_id : FuncId := 32
def bellowskeep_Ints_id : FuncId := 33
def crash_Check_id : FuncId := 34
def bellowslaw22_Plain_id : FuncId := 49
def layout_Good_id : FuncId := 50
def trace_Cut_id : FuncId := 51
def serial_begins_id : FuncId := 52
def bellowsref22_Good_id : FuncId := 53
def bellowsref28_First_id : FuncId := 54
def bellowsref28_begins_id : FuncId := 55
def trace_Of_id : FuncId := 56
def bellowslaw25_Fair_id : FuncId := 57
def layout_Words_id : FuncId := 58
def slices_Concat_api_Tx_api_Tx_id : FuncId := 59
def client_Good_id : FuncId := 60
def serial_told_id : FuncId := 61
def model_Run_id : FuncId := 62
def layout_Room_id : FuncId := 63
def slices_Equal_uint64_uint64_id : FuncId := 64
def bellowslaw25_Copied_id : FuncId := 65
def bellowsref22_Words_id : FuncId := 66
def bellowsref25_Good_id : FuncId := 67
def bellowsref26_Run_id : FuncId := 68
def bellowsref22_Room_id : FuncId := 69
def crash_of_id : FuncId := 70
def bellowsref26_Ran_Taken_id : FuncId := 71
def crash_among_uint64_id : FuncId := 72
def layout_of_id : FuncId := 76
def bellowsref01_Good_id : FuncId := 77
def trace_chosen_api_Event_api_Event_id : FuncId := 78
def trace_Of_1_id : FuncId := 79
def trace_itself_id : FuncId := 80
def slices_Grow_api_Tx_api_Tx_id : FuncId := 81
def client_good_id : FuncId := 82
def model_world_end_id : FuncId := 83
def model_world_tell_id : FuncId := 84
def slices_Clone_uint64_uint64_id : FuncId := 85
def bellowsref26_Ran_end_id : FuncId := 86
def slices_ContainsFunc_uint64_uint64_id : FuncId := 87
def crash_among_uint64_1_id : FuncId := 88
def sync_Once_Do_id : FuncId := 96
def layout_of_1_id : FuncId := 97
def layout_plan_reckon_id : FuncId := 98
def model_world_op_id : FuncId := 99
def slices_IndexFunc_uint64_uint64_id : FuncId := 100
def sync_atomic_Bool_Load_id : FuncId := 104
def sync_Once_doSlow_id : FuncId := 105
def word_Good_id : FuncId := 106
def model_world_get_id : FuncId := 107
def model_world_put_id : FuncId := 108
def sync_atomic_LoadUint32_id : FuncId := 110
def word_between_id : FuncId := 114

/- bellows/bellowslaw29.CrashTells -/
def bellowslaw29_CrashTells_j7 (C : CT) (K : Cont) (I_l5 : ECont) (t : Env) (g : G) (n : Nat) : Prop :=
kBin .int .add (t 14) (.int .i64 1) fun v111 =>
I_l5 (puts t [(110, (t 14)), (111, v111), (14, v111)]) g n

def bellowslaw29_CrashTells_j6 (C : CT) (K : Cont) (I_l5 : ECont) (t : Env) (g : G) (n : Nat) : Prop :=
kSplit (t 122) (
aRet K (.bool false) g n) (
kSplit (t 13) (
bellowslaw29_CrashTells_j7 C K I_l5 (puts t [(123, (t 13)), (124, (.bool true)), (125, undef), (126, undef), (127, undef), (128, undef), (129, undef), (130, undef), (131, (.bool true)), (13, (.bool true))]) g n) (
kIndexAddr (t 8) (t 14) 1 fun v128 =>
kPtr v128 fun l129 o129 =>
kLd g l129 o129 fun v129 =>
C bellowskeep_Words_id [(t 2), v129] g n fun v130 g18 n130 =>
bellowslaw29_CrashTells_j7 C K I_l5 (puts t [(123, (t 13)), (124, (.bool false)), (125, (t 2)), (126, (t 8)), (127, (t 14)), (128, v128), (129, v129), (130, v130), (131, v130), (13, v130)]) g18 n130))

def bellowslaw29_CrashTells_j9 (C : CT) (K : Cont) (t : Env) (g : G) (n : Nat) : Prop :=
aRet K (t 6) g n

def bellowslaw29_CrashTells_j8 (C : CT) (K : Cont) (t : Env) (g : G) (n : Nat) : Prop :=
kPtr (t 3) fun l132 o132 =>
kLdN g l132 (o132 + 0) 9 fun c133 =>
kPtr (t 3) fun l135 o135 =>
kLd g l135 (o135 + 9) fun v136 =>
kPtr (t 3) fun l138 o138 =>
kLd g l138 (o138 + 10) fun v139 =>
(kFill (reps 0 [(.int .u64 0)]) [] fun c134 =>
kNew c134 .exact g n fun l134 g19 n134 =>
(kPtr (ptr l132 (o132 + 0)) fun l _ => g19 l = g l) ∧ (kPtr (ptr l135 (o135 + 9)) fun l _ => g19 l = g l) ∧ (kPtr (ptr l138 (o138 + 10)) fun l _ => g19 l = g l) ∧ (kAppend (.slice (some ⟨l134, 0, none⟩) 0 0) v136 1 8 g19 n134 fun v137 g20 n137 =>
(kPtr (ptr l132 (o132 + 0)) fun l _ => g20 l = g19 l) ∧ (kPtr (ptr l138 (o138 + 10)) fun l _ => g20 l = g19 l) ∧ (C bellowslaw27_Copied_id [v139] g20 n137 fun v140 g21 n140 =>
(kPtr (ptr l132 (o132 + 0)) fun l _ => g21 l = g20 l) ∧ kFill (reps 0 [(.int .u64 0)]) [] fun c142 =>
kNew c142 .exact g21 n140 fun l142 g22 n142 =>
(kPtr (ptr l132 (o132 + 0)) fun l _ => g22 l = g21 l) ∧ (kPtr (ptr l135 (o135 + 9)) fun l _ => g22 l = g21 l) ∧ (kPtr (ptr l138 (o138 + 10)) fun l _ => g22 l = g21 l) ∧ kAppend (.slice (some ⟨l142, 0, none⟩) 0 0) (t 2) 1 8 g22 n142 fun v144 g23 n144 =>
(kPtr (ptr l132 (o132 + 0)) fun l _ => g23 l = g22 l) ∧ C crash_Check_id [(.agg c133.toArray), v137, v140, (t 7), v144] g23 n144 fun v145 g24 n145 =>
kBin .bool .eql v145 (t 13) fun v147 =>
kSplit v147 (
C bellowslaw29_wakes_id [] g24 n145 fun v149 g25 n149 =>
bellowslaw29_CrashTells_j9 C K (puts t [(132, (ptr l132 (o132 + 0))), (133, (.agg c133.toArray)), (135, (ptr l135 (o135 + 9))), (136, v136), (138, (ptr l138 (o138 + 10))), (139, v139), (141, (t 7)), (143, (t 2)), (146, (t 13)), (134, (.slice (some ⟨l134, 0, none⟩) 0 0)), (137, v137), (140, v140), (142, (.slice (some ⟨l142, 0, none⟩) 0 0)), (144, v144), (145, v145), (147, v147), (148, (.bool true)), (149, v149), (150, v149), (6, v149)]) g25 n149) (
bellowslaw29_CrashTells_j9 C K (puts t [(132, (ptr l132 (o132 + 0))), (133, (.agg c133.toArray)), (135, (ptr l135 (o135 + 9))), (136, v136), (138, (ptr l138 (o138 + 10))), (139, v139), (141, (t 7)), (143, (t 2)), (146, (t 13)), (134, (.slice (some ⟨l134, 0, none⟩) 0 0)), (137, v137), (140, v140), (142, (.slice (some ⟨l142, 0, none⟩) 0 0)), (144, v144), (145, v145), (147, v147), (148, (.bool false)), (149, undef), (150, (.bool false)), (6, (.bool false))]) g24 n145)) ∧ (kFill (reps 0 [(.int .u64 0)]) [] fun c142 =>
kNew c142 .exact g20 n137 fun l142 g26 n142 =>
(kPtr (ptr l132 (o132 + 0)) fun l _ => g26 l = g20 l) ∧ (kPtr (ptr l135 (o135 + 9)) fun l _ => g26 l = g20 l) ∧ (kPtr (ptr l138 (o138 + 10)) fun l _ => g26 l = g20 l) ∧ C bellowslaw27_Copied_id [v139] g26 n142 fun v140 g27 n140 =>
(kPtr (ptr l132 (o132 + 0)) fun l _ => g27 l = g26 l) ∧ kAppend (.slice (some ⟨l142, 0, none⟩) 0 0) (t 2) 1 8 g27 n140 fun v144 g28 n144 =>
(kPtr (ptr l132 (o132 + 0)) fun l _ => g28 l = g27 l) ∧ C crash_Check_id [(.agg c133.toArray), v137, v140, (t 7), v144] g28 n144 fun v145 g29 n145 =>
kBin .bool .eql v145 (t 13) fun v147 =>
kSplit v147 (
C bellowslaw29_wakes_id [] g29 n145 fun v149 g30 n149 =>
bellowslaw29_CrashTells_j9 C K (puts t [(132, (ptr l132 (o132 + 0))), (133, (.agg c133.toArray)), (135, (ptr l135 (o135 + 9))), (136, v136), (138, (ptr l138 (o138 + 10))), (139, v139), (141, (t 7)), (143, (t 2)), (146, (t 13)), (134, (.slice (some ⟨l134, 0, none⟩) 0 0)), (137, v137), (142, (.slice (some ⟨l142, 0, none⟩) 0 0)), (140, v140), (144, v144), (145, v145), (147, v147), (148, (.bool true)), (149, v149), (150, v149), (6, v149)]) g30 n149) (
bellowslaw29_CrashTells_j9 C K (puts t [(132, (ptr l132 (o132 + 0))), (133, (.agg c133.toArray)), (135, (ptr l135 (o135 + 9))), (136, v136), (138, (ptr l138 (o138 + 10))), (139, v139), (141, (t 7)), (143, (t 2)), (146, (t 13)), (134, (.slice (some ⟨l134, 0, none⟩) 0 0)), (137, v137), (142, (.slice (some ⟨l142, 0, none⟩) 0 0)), (140, v140), (144, v144), (145, v145), (147, v147), (148, (.bool false)), (149, undef), (150, (.bool false)), (6, (.bool false))]) g29 n145))) ∧ (kFill (reps 0 [(.int .u64 0)]) [] fun c142 =>
kNew c142 .exact g19 n134 fun l142 g31 n142 =>
(kPtr (ptr l132 (o132 + 0)) fun l _ => g31 l = g19 l) ∧ (kPtr (ptr l135 (o135 + 9)) fun l _ => g31 l = g19 l) ∧ (kPtr (ptr l138 (o138 + 10)) fun l _ => g31 l = g19 l) ∧ kAppend (.slice (some ⟨l134, 0, none⟩) 0 0) v136 1 8 g31 n142 fun v137 g32 n137 =>
(kPtr (ptr l132 (o132 + 0)) fun l _ => g32 l = g31 l) ∧ (kPtr (ptr l138 (o138 + 10)) fun l _ => g32 l = g31 l) ∧ C bellowslaw27_Copied_id [v139] g32 n137 fun v140 g33 n140 =>
(kPtr (ptr l132 (o132 + 0)) fun l _ => g33 l = g32 l) ∧ kAppend (.slice (some ⟨l142, 0, none⟩) 0 0) (t 2) 1 8 g33 n140 fun v144 g34 n144 =>
(kPtr (ptr l132 (o132 + 0)) fun l _ => g34 l = g33 l) ∧ C crash_Check_id [(.agg c133.toArray), v137, v140, (t 7), v144] g34 n144 fun v145 g35 n145 =>
kBin .bool .eql v145 (t 13) fun v147 =>
kSplit v147 (
C bellowslaw29_wakes_id [] g35 n145 fun v149 g36 n149 =>
bellowslaw29_CrashTells_j9 C K (puts t [(132, (ptr l132 (o132 + 0))), (133, (.agg c133.toArray)), (135, (ptr l135 (o135 + 9))), (136, v136), (138, (ptr l138 (o138 + 10))), (139, v139), (141, (t 7)), (143, (t 2)), (146, (t 13)), (134, (.slice (some ⟨l134, 0, none⟩) 0 0)), (142, (.slice (some ⟨l142, 0, none⟩) 0 0)), (137, v137), (140, v140), (144, v144), (145, v145), (147, v147), (148, (.bool true)), (149, v149), (150, v149), (6, v149)]) g36 n149) (
bellowslaw29_CrashTells_j9 C K (puts t [(132, (ptr l132 (o132 + 0))), (133, (.agg c133.toArray)), (135, (ptr l135 (o135 + 9))), (136, v136), (138, (ptr l138 (o138 + 10))), (139, v139), (141, (t 7)), (143, (t 2)), (146, (t 13)), (134, (.slice (some ⟨l134, 0, none⟩) 0 0)), (142, (.slice (some ⟨l142, 0, none⟩) 0 0)), (137, v137), (140, v140), (144, v144), (145, v145), (147, v147), (148, (.bool false)), (149, undef), (150, (.bool false)), (6, (.bool false))]) g35 n145))) ∧ (kFill (reps 0 [(.int .u64 0)]) [] fun c142 =>
kNew c142 .exact g n fun l142 g37 n142 =>
(kPtr (ptr l132 (o132 + 0)) fun l _ => g37 l = g l) ∧ (kPtr (ptr l135 (o135 + 9)) fun l _ => g37 l = g l) ∧ (kPtr (ptr l138 (o138 + 10)) fun l _ => g37 l = g l) ∧ kFill (reps 0 [(.int .u64 0)]) [] fun c134 =>
kNew c134 .exact g37 n142 fun l134 g38 n134 =>
(kPtr (ptr l132 (o132 + 0)) fun l _ => g38 l = g37 l) ∧ (kPtr (ptr l135 (o135 + 9)) fun l _ => g38 l = g37 l) ∧ (kPtr (ptr l138 (o138 + 10)) fun l _ => g38 l = g37 l) ∧ kAppend (.slice (some ⟨l134, 0, none⟩) 0 0) v136 1 8 g38 n134 fun v137 g39 n137 =>
(kPtr (ptr l132 (o132 + 0)) fun l _ => g39 l = g38 l) ∧ (kPtr (ptr l138 (o138 + 10)) fun l _ => g39 l = g38 l) ∧ C bellowslaw27_Copied_id [v139] g39 n137 fun v140 g40 n140 =>
(kPtr (ptr l132 (o132 + 0)) fun l _ => g40 l = g39 l) ∧ kAppend (.slice (some ⟨l142, 0, none⟩) 0 0) (t 2) 1 8 g40 n140 fun v144 g41 n144 =>
(kPtr (ptr l132 (o132 + 0)) fun l _ => g41 l = g40 l) ∧ C crash_Check_id [(.agg c133.toArray), v137, v140, (t 7), v144] g41 n144 fun v145 g42 n145 =>
kBin .bool .eql v145 (t 13) fun v147 =>
kSplit v147 (
C bellowslaw29_wakes_id [] g42 n145 fun v149 g43 n149 =>
bellowslaw29_CrashTells_j9 C K (puts t [(132, (ptr l132 (o132 + 0))), (133, (.agg c133.toArray)), (135, (ptr l135 (o135 + 9))), (136, v136), (138, (ptr l138 (o138 + 10))), (139, v139), (141, (t 7)), (143, (t 2)), (146, (t 13)), (142, (.slice (some ⟨l142, 0, none⟩) 0 0)), (134, (.slice (some ⟨l134, 0, none⟩) 0 0)), (137, v137), (140, v140), (144, v144), (145, v145), (147, v147), (148, (.bool true)), (149, v149), (150, v149), (6, v149)]) g43 n149) (
bellowslaw29_CrashTells_j9 C K (puts t [(132, (ptr l132 (o132 + 0))), (133, (.agg c133.toArray)), (135, (ptr l135 (o135 + 9))), (136, v136), (138, (ptr l138 (o138 + 10))), (139, v139), (141, (t 7)), (143, (t 2)), (146, (t 13)), (142, (.slice (some ⟨l142, 0, none⟩) 0 0)), (134, (.slice (some ⟨l134, 0, none⟩) 0 0)), (137, v137), (140, v140), (144, v144), (145, v145), (147, v147), (148, (.bool false)), (149, undef), (150, (.bool false)), (6, (.bool false))]) g42 n145))

def bellowslaw29_CrashTells_l5 (C : CT) (K : Cont) (I_l5 : ECont) (t : Env) (g : G) (n : Nat) : Prop :=
kLen (t 8) fun v108 =>
kBin .int .lss (t 14) v108 fun v109 =>
kSplit v109 (
kIndexAddr (t 8) (t 14) 1 fun v114 =>
kPtr v114 fun l115 o115 =>
kLd g l115 o115 fun v115 =>
kPtr (t 12) fun l116 o116 =>
kLd g l116 (o116 + 1) fun v117 =>
kIndexAddr v117 (t 14) 1 fun v119 =>
kPtr v119 fun l120 o120 =>
kLd g l120 o120 fun v120 =>
C bellowskeep_Words_id [v115, v120] g n fun v121 g17 n121 =>
kUn .not v121 fun v122 =>
bellowslaw29_CrashTells_j6 C K I_l5 (puts t [(106, (t 14)), (107, (t 8)), (108, v108), (109, v109), (112, (t 8)), (113, (t 14)), (114, v114), (115, v115), (116, (ptr l116 (o116 + 1))), (117, v117), (118, (t 14)), (119, v119), (120, v120), (121, v121), (122, v122)]) g17 n121) (
bellowslaw29_CrashTells_j8 C K (puts t [(106, (t 14)), (107, (t 8)), (108, v108), (109, v109)]) g n)

def bellowslaw29_CrashTells_j4 (C : CT) (K : Cont) (t : Env) (g : G) (n : Nat) : Prop :=
kSplit (t 105) (
aRet K (.bool false) g n) (
lfp (bellowslaw29_CrashTells_l5 C K) (puts t [(13, (.bool false)), (14, (.int .i64 0))]) g n)

def bellowslaw29_CrashTells_j3 (C : CT) (K : Cont) (t : Env) (g : G) (n : Nat) : Prop :=
kPtr (t 3) fun l67 o67 =>
kLdN g l67 (o67 + 0) 9 fun c68 =>
kPtr (t 3) fun l69 o69 =>
kLd g l69 (o69 + 9) fun v70 =>
kPtr (t 3) fun l71 o71 =>
kLd g l71 (o71 + 10) fun v72 =>
C bellowsref29_May_id [(.agg c68.toArray), v70, v72, (t 1)] g n fun v74 g14 n74 =>
kNew [(.slice none 0 0), (.slice none 0 0), (.int .i64 0)] .exact g14 n74 fun l12 g15 n12 =>
kAgg v74 fun cg16 =>
cg16.length = 3 ∧ kStN g15 l12 0 cg16 fun g16 =>
kLd g16 l12 (0 + 2) fun v77 =>
kBin .int .neq (t 9) v77 fun v78 =>
kSplit v78 (
bellowslaw29_CrashTells_j4 C K (puts t [(67, (ptr l67 (o67 + 0))), (68, (.agg c68.toArray)), (69, (ptr l69 (o69 + 9))), (70, v70), (71, (ptr l71 (o71 + 10))), (72, v72), (73, (t 1)), (74, v74), (12, (ptr l12 0)), (75, (t 9)), (76, (ptr l12 (0 + 2))), (77, v77), (78, v78), (79, (.bool true)), (80, undef), (81, undef), (82, undef), (83, undef), (84, (.bool true)), (85, (.bool true)), (86, undef), (87, undef), (88, undef), (89, undef), (90, undef), (91, undef), (92, (.bool true)), (93, (.bool true)), (94, undef), (95, undef), (96, undef), (97, undef), (98, undef), (99, (.bool true)), (100, (.bool true)), (101, undef), (102, undef), (103, undef), (104, undef), (105, (.bool true))]) g16 n12) (
kLd g16 l12 (0 + 2) fun v82 =>
kBin .int .neq (t 11) v82 fun v83 =>
kSplit v83 (
bellowslaw29_CrashTells_j4 C K (puts t [(67, (ptr l67 (o67 + 0))), (68, (.agg c68.toArray)), (69, (ptr l69 (o69 + 9))), (70, v70), (71, (ptr l71 (o71 + 10))), (72, v72), (73, (t 1)), (74, v74), (12, (ptr l12 0)), (75, (t 9)), (76, (ptr l12 (0 + 2))), (77, v77), (78, v78), (79, (.bool false)), (80, (t 11)), (81, (ptr l12 (0 + 2))), (82, v82), (83, v83), (84, v83), (85, (.bool true)), (86, undef), (87, undef), (88, undef), (89, undef), (90, undef), (91, undef), (92, (.bool true)), (93, (.bool true)), (94, undef), (95, undef), (96, undef), (97, undef), (98, undef), (99, (.bool true)), (100, (.bool true)), (101, undef), (102, undef), (103, undef), (104, undef), (105, (.bool true))]) g16 n12) (
kLen (t 8) fun v87 =>
kLd g16 l12 (0 + 1) fun v89 =>
kLen v89 fun v90 =>
kBin .int .neq v87 v90 fun v91 =>
kSplit v91 (
bellowslaw29_CrashTells_j4 C K (puts t [(67, (ptr l67 (o67 + 0))), (68, (.agg c68.toArray)), (69, (ptr l69 (o69 + 9))), (70, v70), (71, (ptr l71 (o71 + 10))), (72, v72), (73, (t 1)), (74, v74), (12, (ptr l12 0)), (75, (t 9)), (76, (ptr l12 (0 + 2))), (77, v77), (78, v78), (79, (.bool false)), (80, (t 11)), (81, (ptr l12 (0 + 2))), (82, v82), (83, v83), (84, v83), (85, (.bool false)), (86, (t 8)), (87, v87), (88, (ptr l12 (0 + 1))), (89, v89), (90, v90), (91, v91), (92, v91), (93, (.bool true)), (94, undef), (95, undef), (96, undef), (97, undef), (98, undef), (99, (.bool true)), (100, (.bool true)), (101, undef), (102, undef), (103, undef), (104, undef), (105, (.bool true))]) g16 n12) (
kLd g16 l12 (0 + 0) fun v96 =>
C bellowskeep_Ints_id [(t 10), v96] g16 n12 fun v97 g44 n97 =>
kUn .not v97 fun v98 =>
kSplit v98 (
bellowslaw29_CrashTells_j4 C K (puts t [(67, (ptr l67 (o67 + 0))), (68, (.agg c68.toArray)), (69, (ptr l69 (o69 + 9))), (70, v70), (71, (ptr l71 (o71 + 10))), (72, v72), (73, (t 1)), (74, v74), (12, (ptr l12 0)), (75, (t 9)), (76, (ptr l12 (0 + 2))), (77, v77), (78, v78), (79, (.bool false)), (80, (t 11)), (81, (ptr l12 (0 + 2))), (82, v82), (83, v83), (84, v83), (85, (.bool false)), (86, (t 8)), (87, v87), (88, (ptr l12 (0 + 1))), (89, v89), (90, v90), (91, v91), (92, v91), (93, (.bool false)), (94, (t 10)), (95, (ptr l12 (0 + 0))), (96, v96), (97, v97), (98, v98), (99, v98), (100, (.bool true)), (101, undef), (102, undef), (103, undef), (104, undef), (105, (.bool true))]) g44 n97) (
C bellowskeep_Events_id [(t 7), (t 1)] g44 n97 fun v103 g45 n103 =>
kUn .not v103 fun v104 =>
bellowslaw29_CrashTells_j4 C K (puts t [(67, (ptr l67 (o67 + 0))), (68, (.agg c68.toArray)), (69, (ptr l69 (o69 + 9))), (70, v70), (71, (ptr l71 (o71 + 10))), (72, v72), (73, (t 1)), (74, v74), (12, (ptr l12 0)), (75, (t 9)), (76, (ptr l12 (0 + 2))), (77, v77), (78, v78), (79, (.bool false)), (80, (t 11)), (81, (ptr l12 (0 + 2))), (82, v82), (83, v83), (84, v83), (85, (.bool false)), (86, (t 8)), (87, v87), (88, (ptr l12 (0 + 1))), (89, v89), (90, v90), (91, v91), (92, v91), (93, (.bool false)), (94, (t 10)), (95, (ptr l12 (0 + 0))), (96, v96), (97, v97), (98, v98), (99, v98), (100, (.bool false)), (101, (t 7)), (102, (t 1)), (103, v103), (104, v104), (105, v104)]) g45 n103))))

def bellowslaw29_CrashTells_j2 (C : CT) (K : Cont) (t : Env) (g : G) (n : Nat) : Prop :=
kPtr (t 3) fun l54 o54 =>
kLdN g l54 (o54 + 0) 9 fun c55 =>
kPtr (t 3) fun l57 o57 =>
kLd g l57 (o57 + 9) fun v58 =>
kPtr (t 3) fun l60 o60 =>
kLd g l60 (o60 + 10) fun v61 =>
kFill (reps 0 [(.int .u64 0)]) [] fun c56 =>
kNew c56 .exact g n fun l56 g10 n56 =>
(kPtr (ptr l54 (o54 + 0)) fun l _ => g10 l = g l) ∧ (kPtr (ptr l57 (o57 + 9)) fun l _ => g10 l = g l) ∧ (kPtr (ptr l60 (o60 + 10)) fun l _ => g10 l = g l) ∧ kAppend (.slice (some ⟨l56, 0, none⟩) 0 0) v58 1 8 g10 n56 fun v59 g11 n59 =>
(kPtr (ptr l54 (o54 + 0)) fun l _ => g11 l = g10 l) ∧ (kPtr (ptr l60 (o60 + 10)) fun l _ => g11 l = g10 l) ∧ C bellowslaw27_Copied_id [v61] g11 n59 fun v62 g12 n62 =>
(kPtr (ptr l54 (o54 + 0)) fun l _ => g12 l = g11 l) ∧ C crash_Sure_id [(.agg c55.toArray), v59, v62, (t 7)] g12 n62 fun v64 g13 n64 =>
kExtract v64 0 fun v65 =>
kExtract v64 1 fun v66 =>
bellowslaw29_CrashTells_j3 C K (puts t [(54, (ptr l54 (o54 + 0))), (55, (.agg c55.toArray)), (57, (ptr l57 (o57 + 9))), (58, v58), (60, (ptr l60 (o60 + 10))), (61, v61), (63, (t 7)), (56, (.slice (some ⟨l56, 0, none⟩) 0 0)), (59, v59), (62, v62), (64, v64), (53, v64), (65, v65), (66, v66), (10, v65), (11, v66)]) g13 n64

def bellowslaw29_CrashTells_j1 (C : CT) (K : Cont) (t : Env) (g : G) (n : Nat) : Prop :=
kSplit (t 34) (
C bellowslaw29_wakes_id [] g n fun v35 g3 n35 =>
aRet K v35 g3 n35) (
kFill (reps 0 [(.int .i64 0), (.int .i64 0), (.int .i64 0), (.int .i64 0), (.int .u64 0)]) [] fun c36 =>
kNew c36 .exact g n fun l36 g4 n36 =>
kAppend (.slice (some ⟨l36, 0, none⟩) 0 0) (t 1) 5 40 g4 n36 fun v38 g5 n38 =>
kPtr (t 3) fun l40 o40 =>
kLdN g5 l40 (o40 + 0) 9 fun c41 =>
kPtr (t 3) fun l43 o43 =>
kLd g5 l43 (o43 + 9) fun v44 =>
kPtr (t 3) fun l46 o46 =>
kLd g5 l46 (o46 + 10) fun v47 =>
kFill (reps 0 [(.int .u64 0)]) [] fun c42 =>
kNew c42 .exact g5 n38 fun l42 g6 n42 =>
(kPtr (ptr l40 (o40 + 0)) fun l _ => g6 l = g5 l) ∧ (kPtr (ptr l43 (o43 + 9)) fun l _ => g6 l = g5 l) ∧ (kPtr (ptr l46 (o46 + 10)) fun l _ => g6 l = g5 l) ∧ kAppend (.slice (some ⟨l42, 0, none⟩) 0 0) v44 1 8 g6 n42 fun v45 g7 n45 =>
(kPtr (ptr l40 (o40 + 0)) fun l _ => g7 l = g6 l) ∧ (kPtr (ptr l46 (o46 + 10)) fun l _ => g7 l = g6 l) ∧ C bellowslaw27_Copied_id [v47] g7 n45 fun v48 g8 n48 =>
(kPtr (ptr l40 (o40 + 0)) fun l _ => g8 l = g7 l) ∧ C crash_May_id [(.agg c41.toArray), v45, v48, v38] g8 n48 fun v50 g9 n50 =>
kExtract v50 0 fun v51 =>
kExtract v50 1 fun v52 =>
bellowslaw29_CrashTells_j2 C K (puts t [(36, (.slice (some ⟨l36, 0, none⟩) 0 0)), (37, (t 1)), (38, v38), (7, v38), (40, (ptr l40 (o40 + 0))), (41, (.agg c41.toArray)), (43, (ptr l43 (o43 + 9))), (44, v44), (46, (ptr l46 (o46 + 10))), (47, v47), (49, v38), (42, (.slice (some ⟨l42, 0, none⟩) 0 0)), (45, v45), (48, v48), (50, v50), (39, v50), (51, v51), (52, v52), (8, v51), (9, v52)]) g9 n50)

def bellowslaw29_CrashTells (C : CT) (a0 a1 a2 : Value) (g : G) (n : Nat) (K : Cont) : Prop :=
kAgg a0 fun c3 =>
kNew c3 .exact g n fun l3 g1 n3 =>
kLd g1 l3 (0 + 10) fun v16 =>
C bellowslaw27_Fair_id [v16, (.slice none 0 0)] g1 n3 fun v17 g2 n17 =>
kUn .not v17 fun v18 =>
kSplit v18 (
bellowslaw29_CrashTells_j1 C K (puts (args0 [a0, a1, a2]) [(3, (ptr l3 0)), (6, (.bool false)), (15, (ptr l3 (0 + 10))), (16, v16), (17, v17), (18, v18), (19, (.bool true)), (20, undef), (21, undef), (22, undef), (23, undef), (24, (.bool true)), (25, (.bool true)), (26, undef), (27, undef), (28, undef), (29, (.bool true)), (30, (.bool true)), (31, undef), (32, undef), (33, undef), (34, (.bool true))]) g2 n17) (
kLd g2 l3 (0 + 9) fun v21 =>
kLen v21 fun v22 =>
kBin .int .gtr v22 (.int .i64 500) fun v23 =>
kSplit v23 (
bellowslaw29_CrashTells_j1 C K (puts (args0 [a0, a1, a2]) [(3, (ptr l3 0)), (6, (.bool false)), (15, (ptr l3 (0 + 10))), (16, v16), (17, v17), (18, v18), (19, (.bool false)), (20, (ptr l3 (0 + 9))), (21, v21), (22, v22), (23, v23), (24, v23), (25, (.bool true)), (26, undef), (27, undef), (28, undef), (29, (.bool true)), (30, (.bool true)), (31, undef), (32, undef), (33, undef), (34, (.bool true))]) g2 n17) (
kLen a1 fun v27 =>
kBin .int .gtr v27 (.int .i64 500) fun v28 =>
kSplit v28 (
bellowslaw29_CrashTells_j1 C K (puts (args0 [a0, a1, a2]) [(3, (ptr l3 0)), (6, (.bool false)), (15, (ptr l3 (0 + 10))), (16, v16), (17, v17), (18, v18), (19, (.bool false)), (20, (ptr l3 (0 + 9))), (21, v21), (22, v22), (23, v23), (24, v23), (25, (.bool false)), (26, a1), (27, v27), (28, v28), (29, v28), (30, (.bool true)), (31, undef), (32, undef), (33, undef), (34, (.bool true))]) g2 n17) (
kLen a2 fun v32 =>
kBin .int .gtr v32 (.int .i64 500) fun v33 =>
bellowslaw29_CrashTells_j1 C K (puts (args0 [a0, a1, a2]) [(3, (ptr l3 0)), (6, (.bool false)), (15, (ptr l3 (0 + 10))), (16, v16), (17, v17), (18, v18), (19, (.bool false)), (20, (ptr l3 (0 + 9))), (21, v21), (22, v22), (23, v23), (24, v23), (25, (.bool false)), (26, a1), (27, v27), (28, v28), (29, v28), (30, (.bool false)), (31, a2), (32, v32), (33, v33), (34, v33)]) g2 n17)))

theorem bellowslaw29_CrashTells_eq (C : CT) (a0 a1 a2 : Value) (g : G) (n : Nat) (K : Cont) : bellowslaw29_CrashTells C a0 a1 a2 g n K = abody Try.prog C bellowslaw29_CrashTells_id [a0, a1, a2] g n K := by kernel_rfl

/- bellows/bellowslaw29.CrashGrows -/
def bellowslaw29_CrashGrows_j3 (C : CT) (K : Cont) (J : ECont) (t : Env) (g : G) (n : Nat) : Prop :=
J t g n

def bellowslaw29_CrashGrows_j2 (C : CT) (K : Cont) (J : ECont) (t : Env) (g : G) (n : Nat) : Prop :=
kPtr (t 3) fun l54 o54 =>
kLdN g l54 (o54 + 0) 9 fun c55 =>
kPtr (t 3) fun l57 o57 =>
kLd g l57 (o57 + 9) fun v58 =>
kPtr (t 3) fun l60 o60 =>
kLd g l60 (o60 + 10) fun v61 =>
(kFill (reps 0 [(.int .u64 0)]) [] fun c56 =>
kNew c56 .exact g n fun l56 g11 n56 =>
(kPtr (ptr l54 (o54 + 0)) fun l _ => g11 l = g l) ∧ (kPtr (ptr l57 (o57 + 9)) fun l _ => g11 l = g l) ∧ (kPtr (ptr l60 (o60 + 10)) fun l _ => g11 l = g l) ∧ (kAppend (.slice (some ⟨l56, 0, none⟩) 0 0) v58 1 8 g11 n56 fun v59 g12 n59 =>
(kPtr (ptr l54 (o54 + 0)) fun l _ => g12 l = g11 l) ∧ (kPtr (ptr l60 (o60 + 10)) fun l _ => g12 l = g11 l) ∧ (C bellowslaw27_Copied_id [v61] g12 n59 fun v62 g13 n62 =>
(kPtr (ptr l54 (o54 + 0)) fun l _ => g13 l = g12 l) ∧ kFill (reps 0 [(.int .i64 0), (.int .i64 0), (.int .i64 0), (.int .i64 0), (.int .u64 0)]) [] fun c63 =>
kNew c63 .exact g13 n62 fun l63 g14 n63 =>
(kPtr (ptr l54 (o54 + 0)) fun l _ => g14 l = g13 l) ∧ (kPtr (ptr l57 (o57 + 9)) fun l _ => g14 l = g13 l) ∧ (kPtr (ptr l60 (o60 + 10)) fun l _ => g14 l = g13 l) ∧ kAppend (.slice (some ⟨l63, 0, none⟩) 0 0) (t 1) 5 40 g14 n63 fun v65 g15 n65 =>
(kPtr (ptr l54 (o54 + 0)) fun l _ => g15 l = g14 l) ∧ C crash_Sure_id [(.agg c55.toArray), v59, v62, v65] g15 n65 fun v66 g16 n66 =>
kExtract v66 0 fun v67 =>
kExtract v66 1 fun v68 =>
bellowslaw29_CrashGrows_j3 C K J (puts t [(54, (ptr l54 (o54 + 0))), (55, (.agg c55.toArray)), (57, (ptr l57 (o57 + 9))), (58, v58), (60, (ptr l60 (o60 + 10))), (61, v61), (64, (t 1)), (56, (.slice (some ⟨l56, 0, none⟩) 0 0)), (59, v59), (62, v62), (63, (.slice (some ⟨l63, 0, none⟩) 0 0)), (65, v65), (66, v66), (53, v66), (67, v67), (68, v68), (10, v67), (11, v68)]) g16 n66) ∧ (kFill (reps 0 [(.int .i64 0), (.int .i64 0), (.int .i64 0), (.int .i64 0), (.int .u64 0)]) [] fun c63 =>
kNew c63 .exact g12 n59 fun l63 g17 n63 =>
(kPtr (ptr l54 (o54 + 0)) fun l _ => g17 l = g12 l) ∧ (kPtr (ptr l57 (o57 + 9)) fun l _ => g17 l = g12 l) ∧ (kPtr (ptr l60 (o60 + 10)) fun l _ => g17 l = g12 l) ∧ C bellowslaw27_Copied_id [v61] g17 n63 fun v62 g18 n62 =>
(kPtr (ptr l54 (o54 + 0)) fun l _ => g18 l = g17 l) ∧ kAppend (.slice (some ⟨l63, 0, none⟩) 0 0) (t 1) 5 40 g18 n62 fun v65 g19 n65 =>
(kPtr (ptr l54 (o54 + 0)) fun l _ => g19 l = g18 l) ∧ C crash_Sure_id [(.agg c55.toArray), v59, v62, v65] g19 n65 fun v66 g20 n66 =>
kExtract v66 0 fun v67 =>
kExtract v66 1 fun v68 =>
bellowslaw29_CrashGrows_j3 C K J (puts t [(54, (ptr l54 (o54 + 0))), (55, (.agg c55.toArray)), (57, (ptr l57 (o57 + 9))), (58, v58), (60, (ptr l60 (o60 + 10))), (61, v61), (64, (t 1)), (56, (.slice (some ⟨l56, 0, none⟩) 0 0)), (59, v59), (63, (.slice (some ⟨l63, 0, none⟩) 0 0)), (62, v62), (65, v65), (66, v66), (53, v66), (67, v67), (68, v68), (10, v67), (11, v68)]) g20 n66)) ∧ (kFill (reps 0 [(.int .i64 0), (.int .i64 0), (.int .i64 0), (.int .i64 0), (.int .u64 0)]) [] fun c63 =>
kNew c63 .exact g11 n56 fun l63 g21 n63 =>
(kPtr (ptr l54 (o54 + 0)) fun l _ => g21 l = g11 l) ∧ (kPtr (ptr l57 (o57 + 9)) fun l _ => g21 l = g11 l) ∧ (kPtr (ptr l60 (o60 + 10)) fun l _ => g21 l = g11 l) ∧ kAppend (.slice (some ⟨l56, 0, none⟩) 0 0) v58 1 8 g21 n63 fun v59 g22 n59 =>
(kPtr (ptr l54 (o54 + 0)) fun l _ => g22 l = g21 l) ∧ (kPtr (ptr l60 (o60 + 10)) fun l _ => g22 l = g21 l) ∧ C bellowslaw27_Copied_id [v61] g22 n59 fun v62 g23 n62 =>
(kPtr (ptr l54 (o54 + 0)) fun l _ => g23 l = g22 l) ∧ kAppend (.slice (some ⟨l63, 0, none⟩) 0 0) (t 1) 5 40 g23 n62 fun v65 g24 n65 =>
(kPtr (ptr l54 (o54 + 0)) fun l _ => g24 l = g23 l) ∧ C crash_Sure_id [(.agg c55.toArray), v59, v62, v65] g24 n65 fun v66 g25 n66 =>
kExtract v66 0 fun v67 =>
kExtract v66 1 fun v68 =>
bellowslaw29_CrashGrows_j3 C K J (puts t [(54, (ptr l54 (o54 + 0))), (55, (.agg c55.toArray)), (57, (ptr l57 (o57 + 9))), (58, v58), (60, (ptr l60 (o60 + 10))), (61, v61), (64, (t 1)), (56, (.slice (some ⟨l56, 0, none⟩) 0 0)), (63, (.slice (some ⟨l63, 0, none⟩) 0 0)), (59, v59), (62, v62), (65, v65), (66, v66), (53, v66), (67, v67), (68, v68), (10, v67), (11, v68)]) g25 n66)) ∧ (kFill (reps 0 [(.int .i64 0), (.int .i64 0), (.int .i64 0), (.int .i64 0), (.int .u64 0)]) [] fun c63 =>
kNew c63 .exact g n fun l63 g26 n63 =>
(kPtr (ptr l54 (o54 + 0)) fun l _ => g26 l = g l) ∧ (kPtr (ptr l57 (o57 + 9)) fun l _ => g26 l = g l) ∧ (kPtr (ptr l60 (o60 + 10)) fun l _ => g26 l = g l) ∧ kFill (reps 0 [(.int .u64 0)]) [] fun c56 =>
kNew c56 .exact g26 n63 fun l56 g27 n56 =>
(kPtr (ptr l54 (o54 + 0)) fun l _ => g27 l = g26 l) ∧ (kPtr (ptr l57 (o57 + 9)) fun l _ => g27 l = g26 l) ∧ (kPtr (ptr l60 (o60 + 10)) fun l _ => g27 l = g26 l) ∧ kAppend (.slice (some ⟨l56, 0, none⟩) 0 0) v58 1 8 g27 n56 fun v59 g28 n59 =>
(kPtr (ptr l54 (o54 + 0)) fun l _ => g28 l = g27 l) ∧ (kPtr (ptr l60 (o60 + 10)) fun l _ => g28 l = g27 l) ∧ C bellowslaw27_Copied_id [v61] g28 n59 fun v62 g29 n62 =>
(kPtr (ptr l54 (o54 + 0)) fun l _ => g29 l = g28 l) ∧ kAppend (.slice (some ⟨l63, 0, none⟩) 0 0) (t 1) 5 40 g29 n62 fun v65 g30 n65 =>
(kPtr (ptr l54 (o54 + 0)) fun l _ => g30 l = g29 l) ∧ C crash_Sure_id [(.agg c55.toArray), v59, v62, v65] g30 n65 fun v66 g31 n66 =>
kExtract v66 0 fun v67 =>
kExtract v66 1 fun v68 =>
bellowslaw29_CrashGrows_j3 C K J (puts t [(54, (ptr l54 (o54 + 0))), (55, (.agg c55.toArray)), (57, (ptr l57 (o57 + 9))), (58, v58), (60, (ptr l60 (o60 + 10))), (61, v61), (64, (t 1)), (63, (.slice (some ⟨l63, 0, none⟩) 0 0)), (56, (.slice (some ⟨l56, 0, none⟩) 0 0)), (59, v59), (62, v62), (65, v65), (66, v66), (53, v66), (67, v67), (68, v68), (10, v67), (11, v68)]) g31 n66)

def bellowslaw29_CrashGrows_j1 (C : CT) (K : Cont) (J : ECont) (t : Env) (g : G) (n : Nat) : Prop :=
kSplit (t 28) (
C bellowslaw29_wakes_id [] g n fun v29 g3 n29 =>
aRet K v29 g3 n29) (
kLen (t 1) fun v32 =>
kBin .int .add v32 (.int .i64 1) fun v33 =>
C bellowskeep_Mod_id [(t 2), v33] g n fun v34 g4 n34 =>
kPtr (t 3) fun l36 o36 =>
kLdN g4 l36 (o36 + 0) 9 fun c37 =>
kPtr (t 3) fun l39 o39 =>
kLd g4 l39 (o39 + 9) fun v40 =>
kPtr (t 3) fun l42 o42 =>
kLd g4 l42 (o42 + 10) fun v43 =>
kSlice (t 1) none (some v34) none 5 fun v48 =>
(kFill (reps 0 [(.int .u64 0)]) [] fun c38 =>
kNew c38 .exact g4 n34 fun l38 g5 n38 =>
(kPtr (ptr l36 (o36 + 0)) fun l _ => g5 l = g4 l) ∧ (kPtr (ptr l39 (o39 + 9)) fun l _ => g5 l = g4 l) ∧ (kPtr (ptr l42 (o42 + 10)) fun l _ => g5 l = g4 l) ∧ (kAppend (.slice (some ⟨l38, 0, none⟩) 0 0) v40 1 8 g5 n38 fun v41 g6 n41 =>
(kPtr (ptr l36 (o36 + 0)) fun l _ => g6 l = g5 l) ∧ (kPtr (ptr l42 (o42 + 10)) fun l _ => g6 l = g5 l) ∧ (C bellowslaw27_Copied_id [v43] g6 n41 fun v44 g7 n44 =>
(kPtr (ptr l36 (o36 + 0)) fun l _ => g7 l = g6 l) ∧ kFill (reps 0 [(.int .i64 0), (.int .i64 0), (.int .i64 0), (.int .i64 0), (.int .u64 0)]) [] fun c45 =>
kNew c45 .exact g7 n44 fun l45 g8 n45 =>
(kPtr (ptr l36 (o36 + 0)) fun l _ => g8 l = g7 l) ∧ (kPtr (ptr l39 (o39 + 9)) fun l _ => g8 l = g7 l) ∧ (kPtr (ptr l42 (o42 + 10)) fun l _ => g8 l = g7 l) ∧ kAppend (.slice (some ⟨l45, 0, none⟩) 0 0) v48 5 40 g8 n45 fun v49 g9 n49 =>
(kPtr (ptr l36 (o36 + 0)) fun l _ => g9 l = g8 l) ∧ C crash_Sure_id [(.agg c37.toArray), v41, v44, v49] g9 n49 fun v50 g10 n50 =>
kExtract v50 0 fun v51 =>
kExtract v50 1 fun v52 =>
bellowslaw29_CrashGrows_j2 C K J (puts t [(30, (t 2)), (31, (t 1)), (32, v32), (33, v33), (34, v34), (7, v34), (36, (ptr l36 (o36 + 0))), (37, (.agg c37.toArray)), (39, (ptr l39 (o39 + 9))), (40, v40), (42, (ptr l42 (o42 + 10))), (43, v43), (46, (t 1)), (47, v34), (48, v48), (38, (.slice (some ⟨l38, 0, none⟩) 0 0)), (41, v41), (44, v44), (45, (.slice (some ⟨l45, 0, none⟩) 0 0)), (49, v49), (50, v50), (35, v50), (51, v51), (52, v52), (8, v51), (9, v52)]) g10 n50) ∧ (kFill (reps 0 [(.int .i64 0), (.int .i64 0), (.int .i64 0), (.int .i64 0), (.int .u64 0)]) [] fun c45 =>
kNew c45 .exact g6 n41 fun l45 g32 n45 =>
(kPtr (ptr l36 (o36 + 0)) fun l _ => g32 l = g6 l) ∧ (kPtr (ptr l39 (o39 + 9)) fun l _ => g32 l = g6 l) ∧ (kPtr (ptr l42 (o42 + 10)) fun l _ => g32 l = g6 l) ∧ C bellowslaw27_Copied_id [v43] g32 n45 fun v44 g33 n44 =>
(kPtr (ptr l36 (o36 + 0)) fun l _ => g33 l = g32 l) ∧ kAppend (.slice (some ⟨l45, 0, none⟩) 0 0) v48 5 40 g33 n44 fun v49 g34 n49 =>
(kPtr (ptr l36 (o36 + 0)) fun l _ => g34 l = g33 l) ∧ C crash_Sure_id [(.agg c37.toArray), v41, v44, v49] g34 n49 fun v50 g35 n50 =>
kExtract v50 0 fun v51 =>
kExtract v50 1 fun v52 =>
bellowslaw29_CrashGrows_j2 C K J (puts t [(30, (t 2)), (31, (t 1)), (32, v32), (33, v33), (34, v34), (7, v34), (36, (ptr l36 (o36 + 0))), (37, (.agg c37.toArray)), (39, (ptr l39 (o39 + 9))), (40, v40), (42, (ptr l42 (o42 + 10))), (43, v43), (46, (t 1)), (47, v34), (48, v48), (38, (.slice (some ⟨l38, 0, none⟩) 0 0)), (41, v41), (45, (.slice (some ⟨l45, 0, none⟩) 0 0)), (44, v44), (49, v49), (50, v50), (35, v50), (51, v51), (52, v52), (8, v51), (9, v52)]) g35 n50)) ∧ (kFill (reps 0 [(.int .i64 0), (.int .i64 0), (.int .i64 0), (.int .i64 0), (.int .u64 0)]) [] fun c45 =>
kNew c45 .exact g5 n38 fun l45 g36 n45 =>
(kPtr (ptr l36 (o36 + 0)) fun l _ => g36 l = g5 l) ∧ (kPtr (ptr l39 (o39 + 9)) fun l _ => g36 l = g5 l) ∧ (kPtr (ptr l42 (o42 + 10)) fun l _ => g36 l = g5 l) ∧ kAppend (.slice (some ⟨l38, 0, none⟩) 0 0) v40 1 8 g36 n45 fun v41 g37 n41 =>
(kPtr (ptr l36 (o36 + 0)) fun l _ => g37 l = g36 l) ∧ (kPtr (ptr l42 (o42 + 10)) fun l _ => g37 l = g36 l) ∧ C bellowslaw27_Copied_id [v43] g37 n41 fun v44 g38 n44 =>
(kPtr (ptr l36 (o36 + 0)) fun l _ => g38 l = g37 l) ∧ kAppend (.slice (some ⟨l45, 0, none⟩) 0 0) v48 5 40 g38 n44 fun v49 g39 n49 =>
(kPtr (ptr l36 (o36 + 0)) fun l _ => g39 l = g38 l) ∧ C crash_Sure_id [(.agg c37.toArray), v41, v44, v49] g39 n49 fun v50 g40 n50 =>
kExtract v50 0 fun v51 =>
kExtract v50 1 fun v52 =>
bellowslaw29_CrashGrows_j2 C K J (puts t [(30, (t 2)), (31, (t 1)), (32, v32), (33, v33), (34, v34), (7, v34), (36, (ptr l36 (o36 + 0))), (37, (.agg c37.toArray)), (39, (ptr l39 (o39 + 9))), (40, v40), (42, (ptr l42 (o42 + 10))), (43, v43), (46, (t 1)), (47, v34), (48, v48), (38, (.slice (some ⟨l38, 0, none⟩) 0 0)), (45, (.slice (some ⟨l45, 0, none⟩) 0 0)), (41, v41), (44, v44), (49, v49), (50, v50), (35, v50), (51, v51), (52, v52), (8, v51), (9, v52)]) g40 n50)) ∧ (kFill (reps 0 [(.int .i64 0), (.int .i64 0), (.int .i64 0), (.int .i64 0), (.int .u64 0)]) [] fun c45 =>
kNew c45 .exact g4 n34 fun l45 g41 n45 =>
(kPtr (ptr l36 (o36 + 0)) fun l _ => g41 l = g4 l) ∧ (kPtr (ptr l39 (o39 + 9)) fun l _ => g41 l = g4 l) ∧ (kPtr (ptr l42 (o42 + 10)) fun l _ => g41 l = g4 l) ∧ kFill (reps 0 [(.int .u64 0)]) [] fun c38 =>
kNew c38 .exact g41 n45 fun l38 g42 n38 =>
(kPtr (ptr l36 (o36 + 0)) fun l _ => g42 l = g41 l) ∧ (kPtr (ptr l39 (o39 + 9)) fun l _ => g42 l = g41 l) ∧ (kPtr (ptr l42 (o42 + 10)) fun l _ => g42 l = g41 l) ∧ kAppend (.slice (some ⟨l38, 0, none⟩) 0 0) v40 1 8 g42 n38 fun v41 g43 n41 =>
(kPtr (ptr l36 (o36 + 0)) fun l _ => g43 l = g42 l) ∧ (kPtr (ptr l42 (o42 + 10)) fun l _ => g43 l = g42 l) ∧ C bellowslaw27_Copied_id [v43] g43 n41 fun v44 g44 n44 =>
(kPtr (ptr l36 (o36 + 0)) fun l _ => g44 l = g43 l) ∧ kAppend (.slice (some ⟨l45, 0, none⟩) 0 0) v48 5 40 g44 n44 fun v49 g45 n49 =>
(kPtr (ptr l36 (o36 + 0)) fun l _ => g45 l = g44 l) ∧ C crash_Sure_id [(.agg c37.toArray), v41, v44, v49] g45 n49 fun v50 g46 n50 =>
kExtract v50 0 fun v51 =>
kExtract v50 1 fun v52 =>
bellowslaw29_CrashGrows_j2 C K J (puts t [(30, (t 2)), (31, (t 1)), (32, v32), (33, v33), (34, v34), (7, v34), (36, (ptr l36 (o36 + 0))), (37, (.agg c37.toArray)), (39, (ptr l39 (o39 + 9))), (40, v40), (42, (ptr l42 (o42 + 10))), (43, v43), (46, (t 1)), (47, v34), (48, v48), (45, (.slice (some ⟨l45, 0, none⟩) 0 0)), (38, (.slice (some ⟨l38, 0, none⟩) 0 0)), (41, v41), (44, v44), (49, v49), (50, v50), (35, v50), (51, v51), (52, v52), (8, v51), (9, v52)]) g46 n50))

def bellowslaw29_CrashGrows_j7 (C : CT) (K : Cont) (t : Env) (g : G) (n : Nat) : Prop :=
aRet K (t 6) g n

def bellowslaw29_CrashGrows_j6 (C : CT) (K : Cont) (t : Env) (g : G) (n : Nat) : Prop :=
kBin .int .eql (t 13) (.int .i64 0) fun v107 =>
kSplit v107 (
kLen (t 12) fun v110 =>
kBin .int .geq v110 (.int .i64 1) fun v111 =>
kSplit v111 (
kLen (t 12) fun v115 =>
kBin .int .leq v115 (.int .i64 2) fun v116 =>
kSplit v116 (
C bellowslaw29_wakes_id [] g n fun v119 g54 n119 =>
bellowslaw29_CrashGrows_j7 C K (puts t [(106, (t 13)), (107, v107), (108, (.bool true)), (109, (t 12)), (110, v110), (111, v111), (112, v111), (113, (.bool true)), (114, (t 12)), (115, v115), (116, v116), (117, v116), (118, (.bool true)), (119, v119), (120, v119), (6, v119)]) g54 n119) (
bellowslaw29_CrashGrows_j7 C K (puts t [(106, (t 13)), (107, v107), (108, (.bool true)), (109, (t 12)), (110, v110), (111, v111), (112, v111), (113, (.bool true)), (114, (t 12)), (115, v115), (116, v116), (117, v116), (118, (.bool false)), (119, undef), (120, (.bool false)), (6, (.bool false))]) g n)) (
bellowslaw29_CrashGrows_j7 C K (puts t [(106, (t 13)), (107, v107), (108, (.bool true)), (109, (t 12)), (110, v110), (111, v111), (112, v111), (113, (.bool false)), (114, undef), (115, undef), (116, undef), (117, (.bool false)), (118, (.bool false)), (119, undef), (120, (.bool false)), (6, (.bool false))]) g n)) (
bellowslaw29_CrashGrows_j7 C K (puts t [(106, (t 13)), (107, v107), (108, (.bool false)), (109, undef), (110, undef), (111, undef), (112, (.bool false)), (113, (.bool false)), (114, undef), (115, undef), (116, undef), (117, (.bool false)), (118, (.bool false)), (119, undef), (120, (.bool false)), (6, (.bool false))]) g n)

def bellowslaw29_CrashGrows_j5 (C : CT) (K : Cont) (t : Env) (g : G) (n : Nat) : Prop :=
kSplit (t 89) (
aRet K (.bool false) g n) (
kPtr (t 3) fun l91 o91 =>
kLdN g l91 (o91 + 0) 9 fun c92 =>
kPtr (t 3) fun l94 o94 =>
kLd g l94 (o94 + 9) fun v95 =>
kPtr (t 3) fun l97 o97 =>
kLd g l97 (o97 + 10) fun v98 =>
(kFill (reps 0 [(.int .u64 0)]) [] fun c93 =>
kNew c93 .exact g n fun l93 g48 n93 =>
(kPtr (ptr l91 (o91 + 0)) fun l _ => g48 l = g l) ∧ (kPtr (ptr l94 (o94 + 9)) fun l _ => g48 l = g l) ∧ (kPtr (ptr l97 (o97 + 10)) fun l _ => g48 l = g l) ∧ (kAppend (.slice (some ⟨l93, 0, none⟩) 0 0) v95 1 8 g48 n93 fun v96 g49 n96 =>
(kPtr (ptr l91 (o91 + 0)) fun l _ => g49 l = g48 l) ∧ (kPtr (ptr l97 (o97 + 10)) fun l _ => g49 l = g48 l) ∧ (C bellowslaw27_Copied_id [v98] g49 n96 fun v99 g50 n99 =>
(kPtr (ptr l91 (o91 + 0)) fun l _ => g50 l = g49 l) ∧ kFill (reps 0 [(.int .i64 0), (.int .i64 0), (.int .i64 0), (.int .i64 0), (.int .u64 0)]) [] fun c100 =>
kNew c100 .exact g50 n99 fun l100 g51 n100 =>
(kPtr (ptr l91 (o91 + 0)) fun l _ => g51 l = g50 l) ∧ (kPtr (ptr l94 (o94 + 9)) fun l _ => g51 l = g50 l) ∧ (kPtr (ptr l97 (o97 + 10)) fun l _ => g51 l = g50 l) ∧ kAppend (.slice (some ⟨l100, 0, none⟩) 0 0) (t 1) 5 40 g51 n100 fun v102 g52 n102 =>
(kPtr (ptr l91 (o91 + 0)) fun l _ => g52 l = g51 l) ∧ C crash_May_id [(.agg c92.toArray), v96, v99, v102] g52 n102 fun v103 g53 n103 =>
kExtract v103 0 fun v104 =>
kExtract v103 1 fun v105 =>
bellowslaw29_CrashGrows_j6 C K (puts t [(91, (ptr l91 (o91 + 0))), (92, (.agg c92.toArray)), (94, (ptr l94 (o94 + 9))), (95, v95), (97, (ptr l97 (o97 + 10))), (98, v98), (101, (t 1)), (93, (.slice (some ⟨l93, 0, none⟩) 0 0)), (96, v96), (99, v99), (100, (.slice (some ⟨l100, 0, none⟩) 0 0)), (102, v102), (103, v103), (90, v103), (104, v104), (105, v105), (12, v104), (13, v105)]) g53 n103) ∧ (kFill (reps 0 [(.int .i64 0), (.int .i64 0), (.int .i64 0), (.int .i64 0), (.int .u64 0)]) [] fun c100 =>
kNew c100 .exact g49 n96 fun l100 g55 n100 =>
(kPtr (ptr l91 (o91 + 0)) fun l _ => g55 l = g49 l) ∧ (kPtr (ptr l94 (o94 + 9)) fun l _ => g55 l = g49 l) ∧ (kPtr (ptr l97 (o97 + 10)) fun l _ => g55 l = g49 l) ∧ C bellowslaw27_Copied_id [v98] g55 n100 fun v99 g56 n99 =>
(kPtr (ptr l91 (o91 + 0)) fun l _ => g56 l = g55 l) ∧ kAppend (.slice (some ⟨l100, 0, none⟩) 0 0) (t 1) 5 40 g56 n99 fun v102 g57 n102 =>
(kPtr (ptr l91 (o91 + 0)) fun l _ => g57 l = g56 l) ∧ C crash_May_id [(.agg c92.toArray), v96, v99, v102] g57 n102 fun v103 g58 n103 =>
kExtract v103 0 fun v104 =>
kExtract v103 1 fun v105 =>
bellowslaw29_CrashGrows_j6 C K (puts t [(91, (ptr l91 (o91 + 0))), (92, (.agg c92.toArray)), (94, (ptr l94 (o94 + 9))), (95, v95), (97, (ptr l97 (o97 + 10))), (98, v98), (101, (t 1)), (93, (.slice (some ⟨l93, 0, none⟩) 0 0)), (96, v96), (100, (.slice (some ⟨l100, 0, none⟩) 0 0)), (99, v99), (102, v102), (103, v103), (90, v103), (104, v104), (105, v105), (12, v104), (13, v105)]) g58 n103)) ∧ (kFill (reps 0 [(.int .i64 0), (.int .i64 0), (.int .i64 0), (.int .i64 0), (.int .u64 0)]) [] fun c100 =>
kNew c100 .exact g48 n93 fun l100 g59 n100 =>
(kPtr (ptr l91 (o91 + 0)) fun l _ => g59 l = g48 l) ∧ (kPtr (ptr l94 (o94 + 9)) fun l _ => g59 l = g48 l) ∧ (kPtr (ptr l97 (o97 + 10)) fun l _ => g59 l = g48 l) ∧ kAppend (.slice (some ⟨l93, 0, none⟩) 0 0) v95 1 8 g59 n100 fun v96 g60 n96 =>
(kPtr (ptr l91 (o91 + 0)) fun l _ => g60 l = g59 l) ∧ (kPtr (ptr l97 (o97 + 10)) fun l _ => g60 l = g59 l) ∧ C bellowslaw27_Copied_id [v98] g60 n96 fun v99 g61 n99 =>
(kPtr (ptr l91 (o91 + 0)) fun l _ => g61 l = g60 l) ∧ kAppend (.slice (some ⟨l100, 0, none⟩) 0 0) (t 1) 5 40 g61 n99 fun v102 g62 n102 =>
(kPtr (ptr l91 (o91 + 0)) fun l _ => g62 l = g61 l) ∧ C crash_May_id [(.agg c92.toArray), v96, v99, v102] g62 n102 fun v103 g63 n103 =>
kExtract v103 0 fun v104 =>
kExtract v103 1 fun v105 =>
bellowslaw29_CrashGrows_j6 C K (puts t [(91, (ptr l91 (o91 + 0))), (92, (.agg c92.toArray)), (94, (ptr l94 (o94 + 9))), (95, v95), (97, (ptr l97 (o97 + 10))), (98, v98), (101, (t 1)), (93, (.slice (some ⟨l93, 0, none⟩) 0 0)), (100, (.slice (some ⟨l100, 0, none⟩) 0 0)), (96, v96), (99, v99), (102, v102), (103, v103), (90, v103), (104, v104), (105, v105), (12, v104), (13, v105)]) g63 n103)) ∧ (kFill (reps 0 [(.int .i64 0), (.int .i64 0), (.int .i64 0), (.int .i64 0), (.int .u64 0)]) [] fun c100 =>
kNew c100 .exact g n fun l100 g64 n100 =>
(kPtr (ptr l91 (o91 + 0)) fun l _ => g64 l = g l) ∧ (kPtr (ptr l94 (o94 + 9)) fun l _ => g64 l = g l) ∧ (kPtr (ptr l97 (o97 + 10)) fun l _ => g64 l = g l) ∧ kFill (reps 0 [(.int .u64 0)]) [] fun c93 =>
kNew c93 .exact g64 n100 fun l93 g65 n93 =>
(kPtr (ptr l91 (o91 + 0)) fun l _ => g65 l = g64 l) ∧ (kPtr (ptr l94 (o94 + 9)) fun l _ => g65 l = g64 l) ∧ (kPtr (ptr l97 (o97 + 10)) fun l _ => g65 l = g64 l) ∧ kAppend (.slice (some ⟨l93, 0, none⟩) 0 0) v95 1 8 g65 n93 fun v96 g66 n96 =>
(kPtr (ptr l91 (o91 + 0)) fun l _ => g66 l = g65 l) ∧ (kPtr (ptr l97 (o97 + 10)) fun l _ => g66 l = g65 l) ∧ C bellowslaw27_Copied_id [v98] g66 n96 fun v99 g67 n99 =>
(kPtr (ptr l91 (o91 + 0)) fun l _ => g67 l = g66 l) ∧ kAppend (.slice (some ⟨l100, 0, none⟩) 0 0) (t 1) 5 40 g67 n99 fun v102 g68 n102 =>
(kPtr (ptr l91 (o91 + 0)) fun l _ => g68 l = g67 l) ∧ C crash_May_id [(.agg c92.toArray), v96, v99, v102] g68 n102 fun v103 g69 n103 =>
kExtract v103 0 fun v104 =>
kExtract v103 1 fun v105 =>
bellowslaw29_CrashGrows_j6 C K (puts t [(91, (ptr l91 (o91 + 0))), (92, (.agg c92.toArray)), (94, (ptr l94 (o94 + 9))), (95, v95), (97, (ptr l97 (o97 + 10))), (98, v98), (101, (t 1)), (100, (.slice (some ⟨l100, 0, none⟩) 0 0)), (93, (.slice (some ⟨l93, 0, none⟩) 0 0)), (96, v96), (99, v99), (102, v102), (103, v103), (90, v103), (104, v104), (105, v105), (12, v104), (13, v105)]) g69 n103))

def bellowslaw29_CrashGrows_j4 (C : CT) (K : Cont) (t : Env) (g : G) (n : Nat) : Prop :=
kSplit (t 74) (
C bellowslaw29_wakes_id [] g n fun v75 g47 n75 =>
aRet K v75 g47 n75) (
kLen (t 8) fun v77 =>
kLen (t 10) fun v79 =>
kBin .int .gtr v77 v79 fun v80 =>
kSplit v80 (
bellowslaw29_CrashGrows_j5 C K (puts t [(76, (t 8)), (77, v77), (78, (t 10)), (79, v79), (80, v80), (81, (.bool true)), (82, undef), (83, undef), (84, undef), (85, undef), (86, undef), (87, undef), (88, undef), (89, (.bool true))]) g n) (
kLen (t 8) fun v85 =>
kSlice (t 10) none (some v85) none 1 fun v86 =>
C bellowskeep_Ints_id [(t 8), v86] g n fun v87 g70 n87 =>
kUn .not v87 fun v88 =>
bellowslaw29_CrashGrows_j5 C K (puts t [(76, (t 8)), (77, v77), (78, (t 10)), (79, v79), (80, v80), (81, (.bool false)), (82, (t 8)), (83, (t 10)), (84, (t 8)), (85, v85), (86, v86), (87, v87), (88, v88), (89, v88)]) g70 n87))

def bellowslaw29_CrashGrows_cut (C : CT) (K : Cont) (t : Env) (g : G) (n : Nat) : Prop :=
kBin .int .neq (t 9) (.int .i64 0) fun v70 =>
kSplit v70 (
bellowslaw29_CrashGrows_j4 C K (puts t [(69, (t 9)), (70, v70), (71, (.bool true)), (72, undef), (73, undef), (74, (.bool true))]) g n) (
kBin .int .neq (t 11) (.int .i64 0) fun v73 =>
bellowslaw29_CrashGrows_j4 C K (puts t [(69, (t 9)), (70, v70), (71, (.bool false)), (72, (t 11)), (73, v73), (74, v73)]) g n)

def bellowslaw29_CrashGrows_c (C : CT) (a0 a1 a2 : Value) (J : ECont) (g : G) (n : Nat) (K : Cont) : Prop :=
kAgg a0 fun c3 =>
kNew c3 .exact g n fun l3 g1 n3 =>
kLd g1 l3 (0 + 10) fun v15 =>
C bellowslaw27_Fair_id [v15, (.slice none 0 0)] g1 n3 fun v16 g2 n16 =>
kUn .not v16 fun v17 =>
kSplit v17 (
bellowslaw29_CrashGrows_j1 C K J (puts (args0 [a0, a1, a2]) [(3, (ptr l3 0)), (6, (.bool false)), (14, (ptr l3 (0 + 10))), (15, v15), (16, v16), (17, v17), (18, (.bool true)), (19, undef), (20, undef), (21, undef), (22, undef), (23, (.bool true)), (24, (.bool true)), (25, undef), (26, undef), (27, undef), (28, (.bool true))]) g2 n16) (
kLd g2 l3 (0 + 9) fun v20 =>
kLen v20 fun v21 =>
kBin .int .gtr v21 (.int .i64 500) fun v22 =>
kSplit v22 (
bellowslaw29_CrashGrows_j1 C K J (puts (args0 [a0, a1, a2]) [(3, (ptr l3 0)), (6, (.bool false)), (14, (ptr l3 (0 + 10))), (15, v15), (16, v16), (17, v17), (18, (.bool false)), (19, (ptr l3 (0 + 9))), (20, v20), (21, v21), (22, v22), (23, v22), (24, (.bool true)), (25, undef), (26, undef), (27, undef), (28, (.bool true))]) g2 n16) (
kLen a1 fun v26 =>
kBin .int .gtr v26 (.int .i64 400) fun v27 =>
bellowslaw29_CrashGrows_j1 C K J (puts (args0 [a0, a1, a2]) [(3, (ptr l3 0)), (6, (.bool false)), (14, (ptr l3 (0 + 10))), (15, v15), (16, v16), (17, v17), (18, (.bool false)), (19, (ptr l3 (0 + 9))), (20, v20), (21, v21), (22, v22), (23, v22), (24, (.bool false)), (25, a1), (26, v26), (27, v27), (28, v27)]) g2 n16))

def bellowslaw29_CrashGrows (C : CT) (a0 a1 a2 : Value) (g : G) (n : Nat) (K : Cont) : Prop := bellowslaw29_CrashGrows_c C a0 a1 a2 (bellowslaw29_CrashGrows_cut C K) g n K

theorem bellowslaw29_CrashGrows_cuttail (C : CT) (t : Env) (g : G) (n : Nat) (K : Cont) : bellowslaw29_CrashGrows_cut C K t g n = abodyAt Try.prog C [1, 1, 1, 1, 1] bellowslaw29_CrashGrows_id K t g n := by kernel_rfl
theorem bellowslaw29_CrashGrows_cutmain (C : CT) (a0 a1 a2 : Value) (J : ECont) (g : G) (n : Nat) (K : Cont) : bellowslaw29_CrashGrows_c C a0 a1 a2 J g n K = abodyCut Try.prog C [1, 1, 1, 1, 1] J bellowslaw29_CrashGrows_id [a0, a1, a2] g n K := by kernel_rfl
theorem bellowslaw29_CrashGrows_eq (C : CT) (a0 a1 a2 : Value) (g : G) (n : Nat) (K : Cont) : bellowslaw29_CrashGrows C a0 a1 a2 g n K = abody Try.prog C bellowslaw29_CrashGrows_id [a0, a1, a2] g n K := by
  unfold bellowslaw29_CrashGrows
  rw [bellowslaw29_CrashGrows_cutmain, show bellowslaw29_CrashGrows_cut C K = abodyAt Try.prog C [1, 1, 1, 1, 1] bellowslaw29_CrashGrows_id K from funext fun t => funext fun g => funext fun n => bellowslaw29_CrashGrows_cuttail C t g n K]
  exact abodyCut_eq Try.prog C [1, 1, 1, 1, 1] bellowslaw29_CrashGrows_id [a0, a1, a2] g n K

/- bellows/bellowskeep.Words -/
def bellowskeep_Words_l1 (C : CT) (K : Cont) (I_l1 : ECont) (t : Env) (g : G) (n : Nat) : Prop :=
kLen (t 0) fun v13 =>
kBin .int .lss (t 5) v13 fun v14 =>
kSplit v14 (
kIndexAddr (t 0) (t 5) 1 fun v19 =>
kPtr v19 fun l20 o20 =>
kLd g l20 o20 fun v20 =>
kIndexAddr (t 1) (t 5) 1 fun v23 =>
kPtr v23 fun l24 o24 =>
kLd g l24 o24 fun v24 =>
kBin .int .neq v20 v24 fun v25 =>
kSplit v25 (
aRet K (.bool false) g n) (
kBin .int .add (t 5) (.int .i64 1) fun v16 =>
I_l1 (puts t [(11, (t 5)), (12, (t 0)), (13, v13), (14, v14), (17, (t 0)), (18, (t 5)), (19, v19), (20, v20), (21, (t 1)), (22, (t 5)), (23, v23), (24, v24), (25, v25), (15, (t 5)), (16, v16), (5, v16)]) g n)) (
aRet K (.bool true) g n)

def bellowskeep_Words (C : CT) (a0 a1 : Value) (g : G) (n : Nat) (K : Cont) : Prop :=
kLen a0 fun v7 =>
kLen a1 fun v9 =>
kBin .int .neq v7 v9 fun v10 =>
kSplit v10 (
aRet K (.bool false) g n) (
lfp (bellowskeep_Words_l1 C K) (puts (args0 [a0, a1]) [(4, (.bool false)), (6, a0), (7, v7), (8, a1), (9, v9), (10, v10), (5, (.int .i64 0))]) g n)

theorem bellowskeep_Words_eq (C : CT) (a0 a1 : Value) (g : G) (n : Nat) (K : Cont) : bellowskeep_Words C a0 a1 g n K = abody Try.prog C bellowskeep_Words_id [a0, a1] g n K := by kernel_rfl

/- bellows/serial.Begins -/
def serial_Begins_l1 (C : CT) (K : Cont) (I_l1 : ECont) (t : Env) (g : G) (n : Nat) : Prop :=
kBin .int .lss (t 18) (t 17) fun v19 =>
kSplit v19 (
kIndexAddr (t 16) (t 18) 5 fun v20 =>
kPtr v20 fun l21 o21 =>
kLdN g l21 o21 5 fun c21 =>
kNew [(.int .i64 0), (.int .i64 0), (.int .i64 0), (.int .i64 0), (.int .u64 0)] .exact g n fun l8 g5 n8 =>
kAgg (.agg c21.toArray) fun cg6 =>
cg6.length = 5 ∧ kStN g5 l8 0 cg6 fun g6 =>
kLdN g6 l8 0 5 fun c22 =>
C serial_begins_id [(.agg c22.toArray)] g6 n8 fun v23 g7 n23 =>
kSplit v23 (
kLd g7 l8 (0 + 1) fun v26 =>
kLd g7 l8 (0 + 1) fun v29 =>
kLookup .i64 (t 5) v29 (.int .i64 0) false g7 fun v30 =>
kFill [(.int .i64 0), (.int .i64 0)] [(0, none, v26), (1, none, v30)] fun c31 =>
kFill (reps 1 [(.int .i64 0), (.int .i64 0)]) [(0, (some 2), (.agg c31.toArray))] fun c32 =>
kNew c32 .exact g7 n23 fun l32 g8 n32 =>
kAppend (t 6) (.slice (some ⟨l32, 0, none⟩) 1 1) 2 16 g8 n32 fun v33 g9 n33 =>
kLd g9 l8 (0 + 1) fun v36 =>
kLookup .i64 (t 5) v36 (.int .i64 0) false g9 fun v37 =>
kBin .int .add v37 (.int .i64 1) fun v38 =>
kMapSet .i64 (t 5) v36 v38 g9 fun g10 =>
kBin .int .add (t 18) (.int .i64 1) fun v39 =>
I_l1 (puts t [(19, v19), (20, v20), (21, (.agg c21.toArray)), (8, (ptr l8 0)), (22, (.agg c22.toArray)), (23, v23), (24, (t 6)), (25, (ptr l8 (0 + 1))), (26, v26), (27, (t 5)), (28, (ptr l8 (0 + 1))), (29, v29), (30, v30), (31, (.agg c31.toArray)), (32, (.slice (some ⟨l32, 0, none⟩) 1 1)), (33, v33), (6, v33), (34, (t 5)), (35, (ptr l8 (0 + 1))), (36, v36), (37, v37), (38, v38), (39, v39), (18, v39)]) g10 n33) (
kBin .int .add (t 18) (.int .i64 1) fun v39 =>
I_l1 (puts t [(19, v19), (20, v20), (21, (.agg c21.toArray)), (8, (ptr l8 0)), (22, (.agg c22.toArray)), (23, v23), (39, v39), (18, v39)]) g7 n23)) (
aRet K (t 6) g n)

def serial_Begins (C : CT) (a0 a1 : Value) (g : G) (n : Nat) (K : Cont) : Prop :=
kAgg a0 fun c2 =>
kNew c2 .exact g n fun l2 g1 n2 =>
kLdN g1 l2 0 9 fun c9 =>
C layout_Good_id [(.agg c9.toArray)] g1 n2 fun v10 g2 n10 =>
kUn .not v10 fun v11 =>
kSplit v11 (
aRet K (.slice none 0 0) g2 n10) (
kNewB (.map []) g2 n10 fun l12 g3 n12 =>
C trace_Cut_id [a1] g3 n12 fun v14 g4 n14 =>
kIndexAddr v14 (.int .i64 0) 1 fun v15 =>
kPtr v15 fun l16 o16 =>
kLd g4 l16 o16 fun v16 =>
kLen v16 fun v17 =>
lfp (serial_Begins_l1 C K) (puts (args0 [a0, a1]) [(2, (ptr l2 0)), (4, (.slice none 0 0)), (9, (.agg c9.toArray)), (10, v10), (11, v11), (12, (.map (some l12))), (5, (.map (some l12))), (6, (.slice none 0 0)), (13, a1), (14, v14), (15, v15), (16, v16), (17, v17), (18, (.int .i64 0))]) g4 n14)

theorem serial_Begins_eq (C : CT) (a0 a1 : Value) (g : G) (n : Nat) (K : Cont) : serial_Begins C a0 a1 g n K = abody Try.prog C serial_Begins_id [a0, a1] g n K := by kernel_rfl

/- bellows/bellowsref28.Begins -/
def bellowsref28_Begins_j2 (C : CT) (K : Cont) (I_l1 : ECont) (t : Env) (g : G) (n : Nat) : Prop :=
kBin .int .add (t 6) (.int .i64 1) fun v19 =>
I_l1 (puts t [(18, (t 6)), (19, v19), (6, v19)]) g n

def bellowsref28_Begins_j4 (C : CT) (K : Cont) (I_l1 : ECont) (I_l3 : ECont) (t : Env) (g : G) (n : Nat) : Prop :=
kBin .int .add (t 8) (.int .i64 1) fun v31 =>
I_l3 (puts t [(30, (t 8)), (31, v31), (8, v31)]) g n

def bellowsref28_Begins_j5 (C : CT) (K : Cont) (I_l1 : ECont) (t : Env) (g : G) (n : Nat) : Prop :=
kIndexAddr (t 1) (t 6) 5 fun v48 =>
kPtr v48 fun l49 o49 =>
kLd g l49 (o49 + 1) fun v50 =>
kFill [(.int .i64 0), (.int .i64 0)] [(0, none, v50), (1, none, (t 7))] fun c52 =>
kFill (reps 1 [(.int .i64 0), (.int .i64 0)]) [(0, (some 2), (.agg c52.toArray))] fun c53 =>
kNew c53 .exact g n fun l53 g5 n53 =>
kAppend (t 5) (.slice (some ⟨l53, 0, none⟩) 1 1) 2 16 g5 n53 fun v54 g6 n54 =>
bellowsref28_Begins_j2 C K I_l1 (puts t [(45, (t 5)), (46, (t 1)), (47, (t 6)), (48, v48), (49, (ptr l49 (o49 + 1))), (50, v50), (51, (t 7)), (52, (.agg c52.toArray)), (53, (.slice (some ⟨l53, 0, none⟩) 1 1)), (54, v54), (5, v54)]) g6 n54

def bellowsref28_Begins_l3 (C : CT) (K : Cont) (I_l1 : ECont) (I_l3 : ECont) (t : Env) (g : G) (n : Nat) : Prop :=
kLen (t 5) fun v28 =>
kBin .int .lss (t 8) v28 fun v29 =>
kSplit v29 (
kIndexAddr (t 5) (t 8) 2 fun v34 =>
kIndexArr v34 (.int .i64 0) 2 1 fun v35 =>
kPtr v35 fun l36 o36 =>
kLd g l36 o36 fun v36 =>
kIndexAddr (t 1) (t 6) 5 fun v39 =>
kPtr v39 fun l40 o40 =>
kLd g l40 (o40 + 1) fun v41 =>
kBin .int .eql v36 v41 fun v42 =>
kSplit v42 (
kBin .int .add (t 7) (.int .i64 1) fun v44 =>
bellowsref28_Begins_j4 C K I_l1 I_l3 (puts t [(26, (t 8)), (27, (t 5)), (28, v28), (29, v29), (32, (t 5)), (33, (t 8)), (34, v34), (35, v35), (36, v36), (37, (t 1)), (38, (t 6)), (39, v39), (40, (ptr l40 (o40 + 1))), (41, v41), (42, v42), (43, (t 7)), (44, v44), (7, v44)]) g n) (
bellowsref28_Begins_j4 C K I_l1 I_l3 (puts t [(26, (t 8)), (27, (t 5)), (28, v28), (29, v29), (32, (t 5)), (33, (t 8)), (34, v34), (35, v35), (36, v36), (37, (t 1)), (38, (t 6)), (39, v39), (40, (ptr l40 (o40 + 1))), (41, v41), (42, v42)]) g n)) (
bellowsref28_Begins_j5 C K I_l1 (puts t [(26, (t 8)), (27, (t 5)), (28, v28), (29, v29)]) g n)

def bellowsref28_Begins_l1 (C : CT) (K : Cont) (I_l1 : ECont) (t : Env) (g : G) (n : Nat) : Prop :=
kLen (t 1) fun v16 =>
kBin .int .lss (t 6) v16 fun v17 =>
kSplit v17 (
kIndexAddr (t 1) (t 6) 5 fun v22 =>
kPtr v22 fun l23 o23 =>
kLdN g l23 o23 5 fun c23 =>
C bellowsref28_begins_id [(.agg c23.toArray)] g n fun v24 g4 n24 =>
kUn .not v24 fun v25 =>
kSplit v25 (
bellowsref28_Begins_j2 C K I_l1 (puts t [(14, (t 6)), (15, (t 1)), (16, v16), (17, v17), (20, (t 1)), (21, (t 6)), (22, v22), (23, (.agg c23.toArray)), (24, v24), (25, v25)]) g4 n24) (
lfp (bellowsref28_Begins_l3 C K I_l1) (puts t [(14, (t 6)), (15, (t 1)), (16, v16), (17, v17), (20, (t 1)), (21, (t 6)), (22, v22), (23, (.agg c23.toArray)), (24, v24), (25, v25), (7, (.int .i64 0)), (8, (.int .i64 0))]) g4 n24)) (
aRet K (t 5) g n)

def bellowsref28_Begins (C : CT) (a0 a1 : Value) (g : G) (n : Nat) (K : Cont) : Prop :=
kAgg a0 fun c2 =>
kNew c2 .exact g n fun l2 g1 n2 =>
kLdN g1 l2 0 9 fun c9 =>
C bellowsref22_Good_id [(.agg c9.toArray)] g1 n2 fun v10 g2 n10 =>
kUn .not v10 fun v11 =>
kSplit v11 (
aRet K (.slice none 0 0) g2 n10) (
C bellowsref28_First_id [a1] g2 n10 fun v13 g3 n13 =>
lfp (bellowsref28_Begins_l1 C K) (puts (args0 [a0, a1]) [(2, (ptr l2 0)), (4, (.slice none 0 0)), (9, (.agg c9.toArray)), (10, v10), (11, v11), (12, a1), (13, v13), (1, v13), (5, (.slice none 0 0)), (6, (.int .i64 0))]) g3 n13)

theorem bellowsref28_Begins_eq (C : CT) (a0 a1 : Value) (g : G) (n : Nat) (K : Cont) : bellowsref28_Begins C a0 a1 g n K = abody Try.prog C bellowsref28_Begins_id [a0, a1] g n K := by kernel_rfl

/- bellows/serial.Told -/
def serial_Told_j2 (C : CT) (K : Cont) (I_l1 : ECont) (t : Env) (g : G) (n : Nat) : Prop :=
kBool (t 44) fun b49 =>
kSplit (bif b49 then (t 48) else (.bool false)) (
kBin .int .geq (t 10) (.int .i64 0) fun v52 =>
kSplit v52 (
kIndexAddr (t 7) (t 10) 1 fun v58 =>
kPtr v58 fun l59 o59 =>
kLd g l59 o59 fun v59 =>
kPtr (t 9) fun l60 o60 =>
kLd g l60 (o60 + 4) fun v61 =>
kFill (reps 1 [(.int .u64 0)]) [(0, none, v61)] fun c62 =>
kNew c62 .exact g n fun l62 g10 n62 =>
(kPtr v58 fun l _ => g10 l = g l) ∧ kAppend v59 (.slice (some ⟨l62, 0, none⟩) 1 1) 1 8 g10 n62 fun v63 g11 n63 =>
kIndexAddr (t 7) (t 10) 1 fun v64 =>
kPtr v64 fun lg12 og12 =>
kSt g11 lg12 og12 v63 fun g12 =>
kBin .int .add (t 21) (.int .i64 1) fun v65 =>
I_l1 (puts t [(49, (bif b49 then (t 48) else (.bool false))), (50, (.bool true)), (51, (t 10)), (52, v52), (53, v52), (40, v52), (54, (t 7)), (55, (t 10)), (56, (t 7)), (57, (t 10)), (58, v58), (59, v59), (60, (ptr l60 (o60 + 4))), (61, v61), (62, (.slice (some ⟨l62, 0, none⟩) 1 1)), (63, v63), (64, v64), (65, v65), (21, v65)]) g12 n63) (
kBin .int .add (t 21) (.int .i64 1) fun v65 =>
I_l1 (puts t [(49, (bif b49 then (t 48) else (.bool false))), (50, (.bool true)), (51, (t 10)), (52, v52), (53, v52), (40, v52), (65, v65), (21, v65)]) g n)) (
kBin .int .add (t 21) (.int .i64 1) fun v65 =>
I_l1 (puts t [(49, (bif b49 then (t 48) else (.bool false))), (50, (.bool false)), (51, undef), (52, undef), (53, (.bool false)), (40, (.bool false)), (65, v65), (21, v65)]) g n)

def serial_Told_l1 (C : CT) (K : Cont) (I_l1 : ECont) (t : Env) (g : G) (n : Nat) : Prop :=
kBin .int .lss (t 21) (t 20) fun v22 =>
kSplit v22 (
kIndexAddr (t 19) (t 21) 5 fun v23 =>
kPtr v23 fun l24 o24 =>
kLdN g l24 o24 5 fun c24 =>
kNew [(.int .i64 0), (.int .i64 0), (.int .i64 0), (.int .i64 0), (.int .u64 0)] .exact g n fun l9 g5 n9 =>
kAgg (.agg c24.toArray) fun cg6 =>
cg6.length = 5 ∧ kStN g5 l9 0 cg6 fun g6 =>
kLen (t 7) fun v26 =>
kBin .int .sub v26 (.int .i64 1) fun v27 =>
kLdN g6 l9 0 5 fun c29 =>
C serial_begins_id [(.agg c29.toArray)] g6 n9 fun v30 g7 n30 =>
kSplit v30 (
kLd g7 l9 (0 + 1) fun v33 =>
kBin .int .eql v33 (t 2) fun v35 =>
kSplit v35 (
kFill (reps 1 [(.slice none 0 0)]) [(0, none, (.slice none 0 0))] fun c38 =>
kNew c38 .exact g7 n30 fun l38 g8 n38 =>
kAppend (t 7) (.slice (some ⟨l38, 0, none⟩) 1 1) 1 24 g8 n38 fun v39 g9 n39 =>
kBin .int .add (t 21) (.int .i64 1) fun v65 =>
I_l1 (puts t [(22, v22), (23, v23), (24, (.agg c24.toArray)), (9, (ptr l9 0)), (25, (t 7)), (26, v26), (27, v27), (10, v27), (29, (.agg c29.toArray)), (30, v30), (31, (.bool true)), (32, (ptr l9 (0 + 1))), (33, v33), (34, (t 2)), (35, v35), (36, v35), (28, v35), (37, (t 7)), (38, (.slice (some ⟨l38, 0, none⟩) 1 1)), (39, v39), (7, v39), (65, v65), (21, v65)]) g9 n39) (
kLd g7 l9 (0 + 0) fun v42 =>
kBin .int .eql v42 (.int .i64 8) fun v43 =>
kSplit v43 (
kLd g7 l9 (0 + 1) fun v46 =>
kBin .int .eql v46 (t 2) fun v48 =>
serial_Told_j2 C K I_l1 (puts t [(22, v22), (23, v23), (24, (.agg c24.toArray)), (9, (ptr l9 0)), (25, (t 7)), (26, v26), (27, v27), (10, v27), (29, (.agg c29.toArray)), (30, v30), (31, (.bool true)), (32, (ptr l9 (0 + 1))), (33, v33), (34, (t 2)), (35, v35), (36, v35), (28, v35), (41, (ptr l9 (0 + 0))), (42, v42), (43, v43), (44, (.bool true)), (45, (ptr l9 (0 + 1))), (46, v46), (47, (t 2)), (48, v48)]) g7 n30) (
serial_Told_j2 C K I_l1 (puts t [(22, v22), (23, v23), (24, (.agg c24.toArray)), (9, (ptr l9 0)), (25, (t 7)), (26, v26), (27, v27), (10, v27), (29, (.agg c29.toArray)), (30, v30), (31, (.bool true)), (32, (ptr l9 (0 + 1))), (33, v33), (34, (t 2)), (35, v35), (36, v35), (28, v35), (41, (ptr l9 (0 + 0))), (42, v42), (43, v43), (44, (.bool false)), (45, undef), (46, undef), (47, undef), (48, undef)]) g7 n30))) (
kLd g7 l9 (0 + 0) fun v42 =>
kBin .int .eql v42 (.int .i64 8) fun v43 =>
kSplit v43 (
kLd g7 l9 (0 + 1) fun v46 =>
kBin .int .eql v46 (t 2) fun v48 =>
serial_Told_j2 C K I_l1 (puts t [(22, v22), (23, v23), (24, (.agg c24.toArray)), (9, (ptr l9 0)), (25, (t 7)), (26, v26), (27, v27), (10, v27), (29, (.agg c29.toArray)), (30, v30), (31, (.bool false)), (32, undef), (33, undef), (34, undef), (35, undef), (36, (.bool false)), (28, (.bool false)), (41, (ptr l9 (0 + 0))), (42, v42), (43, v43), (44, (.bool true)), (45, (ptr l9 (0 + 1))), (46, v46), (47, (t 2)), (48, v48)]) g7 n30) (
serial_Told_j2 C K I_l1 (puts t [(22, v22), (23, v23), (24, (.agg c24.toArray)), (9, (ptr l9 0)), (25, (t 7)), (26, v26), (27, v27), (10, v27), (29, (.agg c29.toArray)), (30, v30), (31, (.bool false)), (32, undef), (33, undef), (34, undef), (35, undef), (36, (.bool false)), (28, (.bool false)), (41, (ptr l9 (0 + 0))), (42, v42), (43, v43), (44, (.bool false)), (45, undef), (46, undef), (47, undef), (48, undef)]) g7 n30))) (
aRet K (t 7) g n)

def serial_Told (C : CT) (a0 a1 a2 : Value) (g : G) (n : Nat) (K : Cont) : Prop :=
kAgg a0 fun c3 =>
kNew c3 .exact g n fun l3 g1 n3 =>
kLdN g1 l3 0 9 fun c11 =>
C layout_Good_id [(.agg c11.toArray)] g1 n3 fun v12 g2 n12 =>
kUn .not v12 fun v13 =>
kSplit v13 (
aRet K (.slice none 0 0) g2 n12) (
C trace_Cut_id [a1] g2 n12 fun v15 g3 n15 =>
kIndexAddr v15 (.int .i64 0) 1 fun v16 =>
kPtr v16 fun l17 o17 =>
kLd g3 l17 o17 fun v17 =>
C trace_Of_id [v17, (.int .i64 0), a2] g3 n15 fun v19 g4 n19 =>
kLen v19 fun v20 =>
lfp (serial_Told_l1 C K) (puts (args0 [a0, a1, a2]) [(3, (ptr l3 0)), (6, (.slice none 0 0)), (11, (.agg c11.toArray)), (12, v12), (13, v13), (7, (.slice none 0 0)), (14, a1), (15, v15), (16, v16), (17, v17), (18, a2), (19, v19), (20, v20), (21, (.int .i64 0))]) g4 n19)

theorem serial_Told_eq (C : CT) (a0 a1 a2 : Value) (g : G) (n : Nat) (K : Cont) : serial_Told C a0 a1 a2 g n K = abody Try.prog C serial_Told_id [a0, a1, a2] g n K := by kernel_rfl

/- bellows/bellowsref28.Told -/
def bellowsref28_Told_j2 (C : CT) (K : Cont) (I_l1 : ECont) (t : Env) (g : G) (n : Nat) : Prop :=
kBin .int .add (t 8) (.int .i64 1) fun v20 =>
I_l1 (puts t [(19, (t 8)), (20, v20), (8, v20)]) g n

def bellowsref28_Told_j3 (C : CT) (K : Cont) (I_l1 : ECont) (t : Env) (g : G) (n : Nat) : Prop :=
kIndexAddr (t 1) (t 8) 5 fun v38 =>
kPtr v38 fun l39 o39 =>
kLd g l39 (o39 + 0) fun v40 =>
kBin .int .eql v40 (.int .i64 8) fun v41 =>
kSplit v41 (
kLen (t 7) fun v44 =>
kBin .int .gtr v44 (.int .i64 0) fun v45 =>
kSplit v45 (
kLen (t 7) fun v48 =>
kBin .int .sub v48 (.int .i64 1) fun v49 =>
kIndexAddr (t 7) v49 1 fun v54 =>
kPtr v54 fun l55 o55 =>
kLd g l55 o55 fun v55 =>
kIndexAddr (t 1) (t 8) 5 fun v58 =>
kPtr v58 fun l59 o59 =>
kLd g l59 (o59 + 4) fun v60 =>
kFill (reps 1 [(.int .u64 0)]) [(0, none, v60)] fun c61 =>
kNew c61 .exact g n fun l61 g7 n61 =>
(kPtr v54 fun l _ => g7 l = g l) ∧ kAppend v55 (.slice (some ⟨l61, 0, none⟩) 1 1) 1 8 g7 n61 fun v62 g8 n62 =>
kIndexAddr (t 7) v49 1 fun v63 =>
kPtr v63 fun lg9 og9 =>
kSt g8 lg9 og9 v62 fun g9 =>
bellowsref28_Told_j2 C K I_l1 (puts t [(36, (t 1)), (37, (t 8)), (38, v38), (39, (ptr l39 (o39 + 0))), (40, v40), (41, v41), (42, (.bool true)), (43, (t 7)), (44, v44), (45, v45), (46, v45), (47, (t 7)), (48, v48), (49, v49), (9, v49), (50, (t 7)), (51, v49), (52, (t 7)), (53, v49), (54, v54), (55, v55), (56, (t 1)), (57, (t 8)), (58, v58), (59, (ptr l59 (o59 + 4))), (60, v60), (61, (.slice (some ⟨l61, 0, none⟩) 1 1)), (62, v62), (63, v63)]) g9 n62) (
bellowsref28_Told_j2 C K I_l1 (puts t [(36, (t 1)), (37, (t 8)), (38, v38), (39, (ptr l39 (o39 + 0))), (40, v40), (41, v41), (42, (.bool true)), (43, (t 7)), (44, v44), (45, v45), (46, v45)]) g n)) (
bellowsref28_Told_j2 C K I_l1 (puts t [(36, (t 1)), (37, (t 8)), (38, v38), (39, (ptr l39 (o39 + 0))), (40, v40), (41, v41), (42, (.bool false)), (43, undef), (44, undef), (45, undef), (46, (.bool false))]) g n)

def bellowsref28_Told_l1 (C : CT) (K : Cont) (I_l1 : ECont) (t : Env) (g : G) (n : Nat) : Prop :=
kLen (t 1) fun v17 =>
kBin .int .lss (t 8) v17 fun v18 =>
kSplit v18 (
kIndexAddr (t 1) (t 8) 5 fun v23 =>
kPtr v23 fun l24 o24 =>
kLd g l24 (o24 + 1) fun v25 =>
kBin .int .neq v25 (t 2) fun v27 =>
kSplit v27 (
bellowsref28_Told_j2 C K I_l1 (puts t [(15, (t 8)), (16, (t 1)), (17, v17), (18, v18), (21, (t 1)), (22, (t 8)), (23, v23), (24, (ptr l24 (o24 + 1))), (25, v25), (26, (t 2)), (27, v27)]) g n) (
kIndexAddr (t 1) (t 8) 5 fun v30 =>
kPtr v30 fun l31 o31 =>
kLdN g l31 o31 5 fun c31 =>
C bellowsref28_begins_id [(.agg c31.toArray)] g n fun v32 g4 n32 =>
kSplit v32 (
kFill (reps 1 [(.slice none 0 0)]) [(0, none, (.slice none 0 0))] fun c34 =>
kNew c34 .exact g4 n32 fun l34 g5 n34 =>
kAppend (t 7) (.slice (some ⟨l34, 0, none⟩) 1 1) 1 24 g5 n34 fun v35 g6 n35 =>
bellowsref28_Told_j3 C K I_l1 (puts t [(15, (t 8)), (16, (t 1)), (17, v17), (18, v18), (21, (t 1)), (22, (t 8)), (23, v23), (24, (ptr l24 (o24 + 1))), (25, v25), (26, (t 2)), (27, v27), (28, (t 1)), (29, (t 8)), (30, v30), (31, (.agg c31.toArray)), (32, v32), (33, (t 7)), (34, (.slice (some ⟨l34, 0, none⟩) 1 1)), (35, v35), (7, v35)]) g6 n35) (
bellowsref28_Told_j3 C K I_l1 (puts t [(15, (t 8)), (16, (t 1)), (17, v17), (18, v18), (21, (t 1)), (22, (t 8)), (23, v23), (24, (ptr l24 (o24 + 1))), (25, v25), (26, (t 2)), (27, v27), (28, (t 1)), (29, (t 8)), (30, v30), (31, (.agg c31.toArray)), (32, v32)]) g4 n32))) (
aRet K (t 7) g n)

def bellowsref28_Told (C : CT) (a0 a1 a2 : Value) (g : G) (n : Nat) (K : Cont) : Prop :=
kAgg a0 fun c3 =>
kNew c3 .exact g n fun l3 g1 n3 =>
kLdN g1 l3 0 9 fun c10 =>
C bellowsref22_Good_id [(.agg c10.toArray)] g1 n3 fun v11 g2 n11 =>
kUn .not v11 fun v12 =>
kSplit v12 (
aRet K (.slice none 0 0) g2 n11) (
C bellowsref28_First_id [a1] g2 n11 fun v14 g3 n14 =>
lfp (bellowsref28_Told_l1 C K) (puts (args0 [a0, a1, a2]) [(3, (ptr l3 0)), (6, (.slice none 0 0)), (10, (.agg c10.toArray)), (11, v11), (12, v12), (13, a1), (14, v14), (1, v14), (7, (.slice none 0 0)), (8, (.int .i64 0))]) g3 n14)

theorem bellowsref28_Told_eq (C : CT) (a0 a1 a2 : Value) (g : G) (n : Nat) (K : Cont) : bellowsref28_Told C a0 a1 a2 g n K = abody Try.prog C bellowsref28_Told_id [a0, a1, a2] g n K := by kernel_rfl

/- bellows/bellowskeep.Events -/
def bellowskeep_Events_l1 (C : CT) (K : Cont) (I_l1 : ECont) (t : Env) (g : G) (n : Nat) : Prop :=
kLen (t 0) fun v13 =>
kBin .int .lss (t 5) v13 fun v14 =>
kSplit v14 (
kIndexAddr (t 0) (t 5) 5 fun v19 =>
kPtr v19 fun l20 o20 =>
kLdN g l20 o20 5 fun c20 =>
kIndexAddr (t 1) (t 5) 5 fun v23 =>
kPtr v23 fun l24 o24 =>
kLdN g l24 o24 5 fun c24 =>
kBin (.agg [.i, .i, .i, .i, .i]) .neq (.agg c20.toArray) (.agg c24.toArray) fun v25 =>
kSplit v25 (
aRet K (.bool false) g n) (
kBin .int .add (t 5) (.int .i64 1) fun v16 =>
I_l1 (puts t [(11, (t 5)), (12, (t 0)), (13, v13), (14, v14), (17, (t 0)), (18, (t 5)), (19, v19), (20, (.agg c20.toArray)), (21, (t 1)), (22, (t 5)), (23, v23), (24, (.agg c24.toArray)), (25, v25), (15, (t 5)), (16, v16), (5, v16)]) g n)) (
aRet K (.bool true) g n)

def bellowskeep_Events (C : CT) (a0 a1 : Value) (g : G) (n : Nat) (K : Cont) : Prop :=
kLen a0 fun v7 =>
kLen a1 fun v9 =>
kBin .int .neq v7 v9 fun v10 =>
kSplit v10 (
aRet K (.bool false) g n) (
lfp (bellowskeep_Events_l1 C K) (puts (args0 [a0, a1]) [(4, (.bool false)), (6, a0), (7, v7), (8, a1), (9, v9), (10, v10), (5, (.int .i64 0))]) g n)

theorem bellowskeep_Events_eq (C : CT) (a0 a1 : Value) (g : G) (n : Nat) (K : Cont) : bellowskeep_Events C a0 a1 g n K = abody Try.prog C bellowskeep_Events_id [a0, a1] g n K := by kernel_rfl

/- bellows/bellowslaw27.Fair -/
def bellowslaw27_Fair_j2 (C : CT) (K : Cont) (t : Env) (g : G) (n : Nat) : Prop :=
kLen (t 0) fun v19 =>
kBin .int .leq v19 (.int .i64 10) fun v20 =>
kSplit v20 (
kLen (t 1) fun v23 =>
kBin .int .leq v23 (.int .i64 2500) fun v24 =>
aRet K v24 g n) (
aRet K (.bool false) g n)

def bellowslaw27_Fair_l1 (C : CT) (K : Cont) (I_l1 : ECont) (t : Env) (g : G) (n : Nat) : Prop :=
kLen (t 0) fun v8 =>
kBin .int .lss (t 5) v8 fun v9 =>
kSplit v9 (
kIndexAddr (t 0) (t 5) 1 fun v14 =>
kPtr v14 fun l15 o15 =>
kLd g l15 o15 fun v15 =>
C bellowslaw25_Fair_id [v15] g n fun v16 g1 n16 =>
kUn .not v16 fun v17 =>
kSplit v17 (
aRet K (.bool false) g1 n16) (
kBin .int .add (t 5) (.int .i64 1) fun v11 =>
I_l1 (puts t [(6, (t 5)), (7, (t 0)), (8, v8), (9, v9), (12, (t 0)), (13, (t 5)), (14, v14), (15, v15), (16, v16), (17, v17), (10, (t 5)), (11, v11), (5, v11)]) g1 n16)) (
bellowslaw27_Fair_j2 C K (puts t [(6, (t 5)), (7, (t 0)), (8, v8), (9, v9)]) g n)

def bellowslaw27_Fair (C : CT) (a0 a1 : Value) (g : G) (n : Nat) (K : Cont) : Prop :=
lfp (bellowslaw27_Fair_l1 C K) (puts (args0 [a0, a1]) [(4, (.bool false)), (5, (.int .i64 0))]) g n

theorem bellowslaw27_Fair_eq (C : CT) (a0 a1 : Value) (g : G) (n : Nat) (K : Cont) : bellowslaw27_Fair C a0 a1 g n K = abody Try.prog C bellowslaw27_Fair_id [a0, a1] g n K := by kernel_rfl

/- bellows/serial.Check -/
def serial_Check_j6 (C : CT) (K : Cont) (I_l4 : ECont) (t : Env) (g : G) (n : Nat) : Prop :=
kBool (t 124) fun b134 =>
kSplit (bif b134 then (.bool true) else (t 133)) (
aRet K (.tuple #[(t 14), (.int .i64 16)]) g n) (
kLen (t 21) fun v139 =>
kSlice (t 19) none (some v139) none 1 fun v140 =>
C slices_Equal_uint64_uint64_id [(t 21), v140] g n fun v141 g13 n141 =>
kUn .not v141 fun v142 =>
kSplit v142 (
aRet K (.tuple #[(t 14), (.int .i64 16)]) g13 n141) (
kBin .int .add (t 60) (.int .i64 1) fun v146 =>
I_l4 (puts t [(134, (bif b134 then (.bool true) else (t 133))), (135, (.bool false)), (136, (t 21)), (137, (t 19)), (138, (t 21)), (139, v139), (140, v140), (141, v141), (142, v142), (143, v142), (145, (t 18)), (1, (t 18)), (146, v146), (60, v146)]) g13 n141))

def serial_Check_j5 (C : CT) (K : Cont) (I_l4 : ECont) (t : Env) (g : G) (n : Nat) : Prop :=
kBool (t 71) fun b76 =>
kSplit (bif b76 then (.bool true) else (t 75)) (
aRet K (.tuple #[(t 14), (.int .i64 16)]) g n) (
kIndexAddr (t 2) (t 16) 1 fun v81 =>
kPtr v81 fun l82 o82 =>
kLd g l82 o82 fun v82 =>
kLen v82 fun v83 =>
kBin .int .geq (t 17) v83 fun v84 =>
kSplit v84 (
aRet K (.tuple #[(t 14), (.int .i64 16)]) g n) (
kPtr (t 4) fun l89 o89 =>
kLdN g l89 o89 9 fun c89 =>
kIndexAddr (t 2) (t 16) 1 fun v93 =>
kPtr v93 fun l94 o94 =>
kLd g l94 o94 fun v94 =>
kIndexAddr v94 (t 17) 2 fun v96 =>
kPtr v96 fun l97 o97 =>
kLdN g l97 o97 2 fun c97 =>
C layout_Room_id [(.agg c89.toArray)] g n fun v90 g11 n90 =>
(kPtr v93 fun l _ => g11 l = g l) ∧ (kPtr v96 fun l _ => g11 l = g l) ∧ C model_Run_id [(t 1), v90, (.agg c97.toArray)] g11 n90 fun v98 g12 n98 =>
kExtract v98 0 fun v99 =>
kExtract v98 1 fun v100 =>
kExtract v98 2 fun v101 =>
kBin .int .neq v101 (.int .i64 0) fun v103 =>
kSplit v103 (
aRet K (.tuple #[(t 14), v101]) g12 n98) (
kLookup .i64 (t 13) (t 16) (.slice none 0 0) false g12 fun v108 =>
kIndexAddr v108 (t 17) 1 fun v110 =>
kPtr v110 fun l111 o111 =>
kLd g12 l111 o111 fun v111 =>
kLookup .i64 (t 13) (t 16) (.slice none 0 0) false g12 fun v115 =>
kLen v115 fun v116 =>
kBin .int .sub v116 (.int .i64 1) fun v117 =>
kBin .int .eql (t 17) v117 fun v118 =>
kLen v111 fun v120 =>
kLen v100 fun v122 =>
kBin .int .gtr v120 v122 fun v123 =>
kSplit v123 (
serial_Check_j6 C K I_l4 (puts t [(76, (bif b76 then (.bool true) else (t 75))), (77, (.bool false)), (78, (t 17)), (79, (t 2)), (80, (t 16)), (81, v81), (82, v82), (83, v83), (84, v84), (85, v84), (88, (t 1)), (89, (.agg c89.toArray)), (91, (t 2)), (92, (t 16)), (93, v93), (94, v94), (95, (t 17)), (96, v96), (97, (.agg c97.toArray)), (90, v90), (98, v98), (87, v98), (99, v99), (100, v100), (101, v101), (18, v99), (19, v100), (20, v101), (102, v101), (103, v103), (106, (t 13)), (107, (t 16)), (108, v108), (109, (t 17)), (110, v110), (111, v111), (21, v111), (112, (t 17)), (113, (t 13)), (114, (t 16)), (115, v115), (116, v116), (117, v117), (118, v118), (22, v118), (119, v111), (120, v120), (121, v100), (122, v122), (123, v123), (124, (.bool true)), (125, undef), (126, undef), (127, undef), (128, undef), (129, undef), (130, undef), (131, undef), (132, undef), (133, undef)]) g12 n98) (
kUn .not v118 fun v126 =>
kSplit v126 (
kLen v111 fun v129 =>
kLen v100 fun v131 =>
kBin .int .lss v129 v131 fun v132 =>
serial_Check_j6 C K I_l4 (puts t [(76, (bif b76 then (.bool true) else (t 75))), (77, (.bool false)), (78, (t 17)), (79, (t 2)), (80, (t 16)), (81, v81), (82, v82), (83, v83), (84, v84), (85, v84), (88, (t 1)), (89, (.agg c89.toArray)), (91, (t 2)), (92, (t 16)), (93, v93), (94, v94), (95, (t 17)), (96, v96), (97, (.agg c97.toArray)), (90, v90), (98, v98), (87, v98), (99, v99), (100, v100), (101, v101), (18, v99), (19, v100), (20, v101), (102, v101), (103, v103), (106, (t 13)), (107, (t 16)), (108, v108), (109, (t 17)), (110, v110), (111, v111), (21, v111), (112, (t 17)), (113, (t 13)), (114, (t 16)), (115, v115), (116, v116), (117, v117), (118, v118), (22, v118), (119, v111), (120, v120), (121, v100), (122, v122), (123, v123), (124, (.bool false)), (125, v118), (126, v126), (127, (.bool true)), (128, v111), (129, v129), (130, v100), (131, v131), (132, v132), (133, v132)]) g12 n98) (
serial_Check_j6 C K I_l4 (puts t [(76, (bif b76 then (.bool true) else (t 75))), (77, (.bool false)), (78, (t 17)), (79, (t 2)), (80, (t 16)), (81, v81), (82, v82), (83, v83), (84, v84), (85, v84), (88, (t 1)), (89, (.agg c89.toArray)), (91, (t 2)), (92, (t 16)), (93, v93), (94, v94), (95, (t 17)), (96, v96), (97, (.agg c97.toArray)), (90, v90), (98, v98), (87, v98), (99, v99), (100, v100), (101, v101), (18, v99), (19, v100), (20, v101), (102, v101), (103, v103), (106, (t 13)), (107, (t 16)), (108, v108), (109, (t 17)), (110, v110), (111, v111), (21, v111), (112, (t 17)), (113, (t 13)), (114, (t 16)), (115, v115), (116, v116), (117, v117), (118, v118), (22, v118), (119, v111), (120, v120), (121, v100), (122, v122), (123, v123), (124, (.bool false)), (125, v118), (126, v126), (127, (.bool false)), (128, undef), (129, undef), (130, undef), (131, undef), (132, undef), (133, (.bool false))]) g12 n98)))))

def serial_Check_j7 (C : CT) (K : Cont) (t : Env) (g : G) (n : Nat) : Prop :=
kLen (t 12) fun v148 =>
aRet K (.tuple #[v148, (.int .i64 0)]) g n

def serial_Check_l4 (C : CT) (K : Cont) (I_l4 : ECont) (t : Env) (g : G) (n : Nat) : Prop :=
kBin .int .lss (t 60) (t 59) fun v61 =>
kSplit v61 (
kIndexAddr (t 58) (t 60) 2 fun v63 =>
kPtr v63 fun l64 o64 =>
kLdN g l64 o64 2 fun c64 =>
kNew [(.int .i64 0), (.int .i64 0)] .exact g n fun l15 g9 n15 =>
kAgg (.agg c64.toArray) fun cg10 =>
cg10.length = 2 ∧ kStN g9 l15 0 cg10 fun g10 =>
kIndexArr (ptr l15 0) (.int .i64 0) 2 1 fun v65 =>
kPtr v65 fun l66 o66 =>
kLd g10 l66 o66 fun v66 =>
kIndexArr (ptr l15 0) (.int .i64 1) 2 1 fun v67 =>
kPtr v67 fun l68 o68 =>
kLd g10 l68 o68 fun v68 =>
kBin .int .lss v66 (.int .i64 0) fun v70 =>
kSplit v70 (
serial_Check_j5 C K I_l4 (puts t [(61, v61), (62, (t 60)), (63, v63), (64, (.agg c64.toArray)), (15, (ptr l15 0)), (14, (t 60)), (65, v65), (66, v66), (67, v67), (68, v68), (16, v66), (17, v68), (69, v66), (70, v70), (71, (.bool true)), (72, undef), (73, undef), (74, undef), (75, undef)]) g10 n15) (
kLen (t 2) fun v74 =>
kBin .int .geq v66 v74 fun v75 =>
serial_Check_j5 C K I_l4 (puts t [(61, v61), (62, (t 60)), (63, v63), (64, (.agg c64.toArray)), (15, (ptr l15 0)), (14, (t 60)), (65, v65), (66, v66), (67, v67), (68, v68), (16, v66), (17, v68), (69, v66), (70, v70), (71, (.bool false)), (72, v66), (73, (t 2)), (74, v74), (75, v75)]) g10 n15)) (
serial_Check_j7 C K (puts t [(61, v61)]) g n)

def serial_Check_j3 (C : CT) (K : Cont) (t : Env) (g : G) (n : Nat) : Prop :=
kPtr (t 4) fun l52 o52 =>
kLdN g l52 o52 9 fun c52 =>
kPtr (t 4) fun l55 o55 =>
kLdN g l55 o55 9 fun c55 =>
C serial_Begins_id [(.agg c52.toArray), (t 3)] g n fun v54 g7 n54 =>
(kPtr (t 4) fun l _ => g7 l = g l) ∧ C serial_told_id [(.agg c55.toArray), (t 3)] g7 n54 fun v57 g8 n57 =>
kLen v54 fun v59 =>
lfp (serial_Check_l4 C K) (puts t [(52, (.agg c52.toArray)), (53, (t 3)), (55, (.agg c55.toArray)), (56, (t 3)), (54, v54), (57, v57), (12, v54), (13, v57), (58, v54), (59, v59), (60, (.int .i64 0))]) g8 n57

def serial_Check_l2 (C : CT) (K : Cont) (I_l2 : ECont) (t : Env) (g : G) (n : Nat) : Prop :=
kBin .int .lss (t 44) (t 43) fun v45 =>
kSplit v45 (
kIndexAddr (t 42) (t 44) 2 fun v46 =>
kPtr v46 fun l47 o47 =>
kLdN g l47 o47 2 fun c47 =>
kNew [(.slice none 0 0), (.bool false)] .exact g n fun l11 g4 n11 =>
kAgg (.agg c47.toArray) fun cg5 =>
cg5.length = 2 ∧ kStN g4 l11 0 cg5 fun g5 =>
kLdN g5 l11 0 2 fun c48 =>
C client_Good_id [(.agg c48.toArray)] g5 n11 fun v49 g6 n49 =>
kUn .not v49 fun v50 =>
kSplit v50 (
aRet K (.tuple #[(.int .i64 0), (.int .i64 11)]) g6 n49) (
kBin .int .add (t 44) (.int .i64 1) fun v51 =>
I_l2 (puts t [(45, v45), (46, v46), (47, (.agg c47.toArray)), (11, (ptr l11 0)), (48, (.agg c48.toArray)), (49, v49), (50, v50), (51, v51), (44, v51)]) g6 n49)) (
serial_Check_j3 C K (puts t [(45, v45)]) g n)

def serial_Check_j1 (C : CT) (K : Cont) (t : Env) (g : G) (n : Nat) : Prop :=
kBool (t 26) fun b32 =>
kSplit (bif b32 then (.bool true) else (t 31)) (
aRet K (.tuple #[(.int .i64 0), (.int .i64 1)]) g n) (
kLen (t 2) fun v35 =>
kPtr (t 4) fun l36 o36 =>
kLd g l36 (o36 + 0 + 0) fun v38 =>
kBin .int .neq v35 v38 fun v39 =>
kSplit v39 (
aRet K (.tuple #[(.int .i64 0), (.int .i64 1)]) g n) (
C slices_Concat_api_Tx_api_Tx_id [(t 2)] g n fun v42 g3 n42 =>
kLen v42 fun v43 =>
lfp (serial_Check_l2 C K) (puts t [(32, (bif b32 then (.bool true) else (t 31))), (33, (.bool false)), (34, (t 2)), (35, v35), (36, (ptr l36 (o36 + 0))), (37, (ptr l36 (o36 + 0 + 0))), (38, v38), (39, v39), (40, v39), (41, (t 2)), (42, v42), (43, v43), (44, (.int .i64 0))]) g3 n42))

def serial_Check (C : CT) (a0 a1 a2 a3 : Value) (g : G) (n : Nat) (K : Cont) : Prop :=
kAgg a0 fun c4 =>
kNew c4 .exact g n fun l4 g1 n4 =>
kLdN g1 l4 0 9 fun c23 =>
C layout_Good_id [(.agg c23.toArray)] g1 n4 fun v24 g2 n24 =>
kUn .not v24 fun v25 =>
kSplit v25 (
serial_Check_j1 C K (puts (args0 [a0, a1, a2, a3]) [(4, (ptr l4 0)), (8, (.int .i64 0)), (9, (.int .i64 0)), (23, (.agg c23.toArray)), (24, v24), (25, v25), (26, (.bool true)), (27, undef), (28, undef), (29, undef), (30, undef), (31, undef)]) g2 n24) (
kLen a1 fun v28 =>
kLdN g2 l4 0 9 fun c29 =>
C layout_Words_id [(.agg c29.toArray)] g2 n24 fun v30 g14 n30 =>
kBin .int .neq v28 v30 fun v31 =>
serial_Check_j1 C K (puts (args0 [a0, a1, a2, a3]) [(4, (ptr l4 0)), (8, (.int .i64 0)), (9, (.int .i64 0)), (23, (.agg c23.toArray)), (24, v24), (25, v25), (26, (.bool false)), (27, a1), (28, v28), (29, (.agg c29.toArray)), (30, v30), (31, v31)]) g14 n30)

theorem serial_Check_eq (C : CT) (a0 a1 a2 a3 : Value) (g : G) (n : Nat) (K : Cont) : serial_Check C a0 a1 a2 a3 g n K = abody Try.prog C serial_Check_id [a0, a1, a2, a3] g n K := by kernel_rfl

/- bellows/bellowslaw27.Copied -/
def bellowslaw27_Copied_l1 (C : CT) (K : Cont) (I_l1 : ECont) (t : Env) (g : G) (n : Nat) : Prop :=
kLen (t 0) fun v7 =>
kBin .int .lss (t 4) v7 fun v8 =>
kSplit v8 (
kIndexAddr (t 0) (t 4) 1 fun v14 =>
kPtr v14 fun l15 o15 =>
kLd g l15 o15 fun v15 =>
C bellowslaw25_Copied_id [v15] g n fun v16 g1 n16 =>
kFill (reps 1 [(.slice none 0 0)]) [(0, none, v16)] fun c17 =>
kNew c17 .exact g1 n16 fun l17 g2 n17 =>
kAppend (t 3) (.slice (some ⟨l17, 0, none⟩) 1 1) 1 24 g2 n17 fun v18 g3 n18 =>
kBin .int .add (t 4) (.int .i64 1) fun v10 =>
I_l1 (puts t [(5, (t 4)), (6, (t 0)), (7, v7), (8, v8), (11, (t 3)), (12, (t 0)), (13, (t 4)), (14, v14), (15, v15), (16, v16), (17, (.slice (some ⟨l17, 0, none⟩) 1 1)), (18, v18), (3, v18), (9, (t 4)), (10, v10), (4, v10)]) g3 n18) (
aRet K (t 3) g n)

def bellowslaw27_Copied (C : CT) (a0 : Value) (g : G) (n : Nat) (K : Cont) : Prop :=
lfp (bellowslaw27_Copied_l1 C K) (puts (args0 [a0]) [(2, (.slice none 0 0)), (3, (.slice none 0 0)), (4, (.int .i64 0))]) g n

theorem bellowslaw27_Copied_eq (C : CT) (a0 : Value) (g : G) (n : Nat) (K : Cont) : bellowslaw27_Copied C a0 g n K = abody Try.prog C bellowslaw27_Copied_id [a0] g n K := by kernel_rfl

/- bellows/bellowsref28.Check -/
def bellowsref28_Check_j4 (C : CT) (K : Cont) (I_l2 : ECont) (t : Env) (g : G) (n : Nat) : Prop :=
kBin .int .add (t 9) (.int .i64 1) fun v44 =>
I_l2 (puts t [(43, (t 9)), (44, v44), (9, v44)]) g n

def bellowsref28_Check_l3 (C : CT) (K : Cont) (I_l2 : ECont) (I_l3 : ECont) (t : Env) (g : G) (n : Nat) : Prop :=
kIndexAddr (t 2) (t 9) 1 fun v48 =>
kPtr v48 fun l49 o49 =>
kLd g l49 o49 fun v49 =>
kLen v49 fun v50 =>
kBin .int .lss (t 10) v50 fun v51 =>
kSplit v51 (
kIndexAddr (t 2) (t 9) 1 fun v56 =>
kPtr v56 fun l57 o57 =>
kLd g l57 o57 fun v57 =>
kIndexAddr v57 (t 10) 2 fun v59 =>
kPtr v59 fun l60 o60 =>
kLdN g l60 o60 2 fun c60 =>
C bellowsref25_Good_id [(.agg c60.toArray)] g n fun v61 g5 n61 =>
kUn .not v61 fun v62 =>
kSplit v62 (
kFill [(.slice none 0 0), (.int .i64 0), (.int .i64 0)] [(2, none, (.int .i64 11))] fun c63 =>
kPtr (t 8) fun lg6 og6 =>
kAgg (.agg c63.toArray) fun cg6 =>
cg6.length = 3 ∧ kStN g5 lg6 og6 cg6 fun g6 =>
kPtr (t 8) fun lr0 or0 =>
kLdN g6 lr0 or0 3 fun r0 =>
aRet K (.agg r0.toArray) g6 n61) (
kBin .int .add (t 10) (.int .i64 1) fun v53 =>
I_l3 (puts t [(45, (t 10)), (46, (t 2)), (47, (t 9)), (48, v48), (49, v49), (50, v50), (51, v51), (54, (t 2)), (55, (t 9)), (56, v56), (57, v57), (58, (t 10)), (59, v59), (60, (.agg c60.toArray)), (61, v61), (62, v62), (52, (t 10)), (53, v53), (10, v53)]) g5 n61)) (
bellowsref28_Check_j4 C K I_l2 (puts t [(45, (t 10)), (46, (t 2)), (47, (t 9)), (48, v48), (49, v49), (50, v50), (51, v51)]) g n)

def bellowsref28_Check_j11 (C : CT) (K : Cont) (I_l6 : ECont) (t : Env) (g : G) (n : Nat) : Prop :=
kBin .int .add (t 14) (.int .i64 1) fun v73 =>
I_l6 (puts t [(72, (t 14)), (73, v73), (14, v73)]) g n

def bellowsref28_Check_j10 (C : CT) (K : Cont) (I_l6 : ECont) (t : Env) (g : G) (n : Nat) : Prop :=
kSplit (t 145) (
kFill [(.slice none 0 0), (.int .i64 0), (.int .i64 0)] [(1, none, (t 14)), (2, none, (.int .i64 16))] fun c147 =>
kPtr (t 8) fun lg15 og15 =>
kAgg (.agg c147.toArray) fun cg15 =>
cg15.length = 3 ∧ kStN g lg15 og15 cg15 fun g15 =>
kPtr (t 8) fun lr0 or0 =>
kLdN g15 lr0 or0 3 fun r0 =>
aRet K (.agg r0.toArray) g15 n) (
kPtr (t 18) fun l148 o148 =>
kLd g l148 (o148 + 0) fun v149 =>
kPtr (t 18) fun l153 o153 =>
kLdN g l153 o153 3 fun c153 =>
kIndexAddr (t 17) (t 16) 1 fun v156 =>
kPtr v156 fun l157 o157 =>
kLd g l157 o157 fun v157 =>
kFill [(.int .i64 0), (.int .i64 0), (.slice none 0 0), (.slice none 0 0), (.int .i64 0), (.slice none 0 0), (.bool false)] [(0, none, (t 15)), (1, none, (t 16)), (2, (some 3), (.agg c153.toArray)), (5, none, v157), (6, none, (t 19))] fun c159 =>
kFill (reps 1 [(.int .i64 0), (.int .i64 0), (.slice none 0 0), (.slice none 0 0), (.int .i64 0), (.slice none 0 0), (.bool false)]) [(0, (some 7), (.agg c159.toArray))] fun c160 =>
kNew c160 .exact g n fun l160 g16 n160 =>
kAppend (t 13) (.slice (some ⟨l160, 0, none⟩) 1 1) 7 104 g16 n160 fun v161 g17 n161 =>
bellowsref28_Check_j11 C K I_l6 (puts t [(148, (ptr l148 (o148 + 0))), (149, v149), (12, v149), (150, (t 13)), (151, (t 15)), (152, (t 16)), (153, (.agg c153.toArray)), (154, (t 17)), (155, (t 16)), (156, v156), (157, v157), (158, (t 19)), (159, (.agg c159.toArray)), (160, (.slice (some ⟨l160, 0, none⟩) 1 1)), (161, v161), (13, v161)]) g17 n161)

def bellowsref28_Check_j9 (C : CT) (K : Cont) (I_l6 : ECont) (t : Env) (g : G) (n : Nat) : Prop :=
kLen (t 17) fun v120 =>
kBin .int .sub v120 (.int .i64 1) fun v121 =>
kBin .int .eql (t 16) v121 fun v122 =>
kPtr (t 18) fun l123 o123 =>
kLd g l123 (o123 + 1) fun v124 =>
kIndexAddr (t 17) (t 16) 1 fun v127 =>
kPtr v127 fun l128 o128 =>
kLd g l128 o128 fun v128 =>
C bellowskeep_Begins_id [v124, v128] g n fun v129 g14 n129 =>
kUn .not v129 fun v130 =>
kSplit v130 (
bellowsref28_Check_j10 C K I_l6 (puts t [(118, (t 16)), (119, (t 17)), (120, v120), (121, v121), (122, v122), (19, v122), (123, (ptr l123 (o123 + 1))), (124, v124), (125, (t 17)), (126, (t 16)), (127, v127), (128, v128), (129, v129), (130, v130), (131, (.bool true)), (132, undef), (133, undef), (134, undef), (135, undef), (136, undef), (137, undef), (138, undef), (139, undef), (140, undef), (141, undef), (142, undef), (143, undef), (144, undef), (145, (.bool true))]) g14 n129) (
kUn .not v122 fun v133 =>
kSplit v133 (
kIndexAddr (t 17) (t 16) 1 fun v137 =>
kPtr v137 fun l138 o138 =>
kLd g14 l138 o138 fun v138 =>
kLen v138 fun v139 =>
kPtr (t 18) fun l140 o140 =>
kLd g14 l140 (o140 + 1) fun v141 =>
kLen v141 fun v142 =>
kBin .int .neq v139 v142 fun v143 =>
bellowsref28_Check_j10 C K I_l6 (puts t [(118, (t 16)), (119, (t 17)), (120, v120), (121, v121), (122, v122), (19, v122), (123, (ptr l123 (o123 + 1))), (124, v124), (125, (t 17)), (126, (t 16)), (127, v127), (128, v128), (129, v129), (130, v130), (131, (.bool false)), (132, v122), (133, v133), (134, (.bool true)), (135, (t 17)), (136, (t 16)), (137, v137), (138, v138), (139, v139), (140, (ptr l140 (o140 + 1))), (141, v141), (142, v142), (143, v143), (144, v143), (145, v143)]) g14 n129) (
bellowsref28_Check_j10 C K I_l6 (puts t [(118, (t 16)), (119, (t 17)), (120, v120), (121, v121), (122, v122), (19, v122), (123, (ptr l123 (o123 + 1))), (124, v124), (125, (t 17)), (126, (t 16)), (127, v127), (128, v128), (129, v129), (130, v130), (131, (.bool false)), (132, v122), (133, v133), (134, (.bool false)), (135, undef), (136, undef), (137, undef), (138, undef), (139, undef), (140, undef), (141, undef), (142, undef), (143, undef), (144, (.bool false)), (145, (.bool false))]) g14 n129))

def bellowsref28_Check_j8 (C : CT) (K : Cont) (I_l6 : ECont) (t : Env) (g : G) (n : Nat) : Prop :=
kSplit (t 100) (
kFill [(.slice none 0 0), (.int .i64 0), (.int .i64 0)] [(1, none, (t 14)), (2, none, (.int .i64 16))] fun c102 =>
kPtr (t 8) fun lg8 og8 =>
kAgg (.agg c102.toArray) fun cg8 =>
cg8.length = 3 ∧ kStN g lg8 og8 cg8 fun g8 =>
kPtr (t 8) fun lr0 or0 =>
kLdN g8 lr0 or0 3 fun r0 =>
aRet K (.agg r0.toArray) g8 n) (
kPtr (t 4) fun l103 o103 =>
kLdN g l103 o103 9 fun c103 =>
C bellowsref28_Told_id [(.agg c103.toArray), (t 3), (t 15)] g n fun v106 g9 n106 =>
kPtr (t 4) fun l108 o108 =>
kLdN g9 l108 o108 9 fun c108 =>
kIndexAddr (t 2) (t 15) 1 fun v112 =>
kPtr v112 fun l113 o113 =>
kLd g9 l113 o113 fun v113 =>
kIndexAddr v113 (t 16) 2 fun v115 =>
kPtr v115 fun l116 o116 =>
kLdN g9 l116 o116 2 fun c116 =>
(C bellowsref22_Room_id [(.agg c108.toArray)] g9 n106 fun v109 g10 n109 =>
(kPtr v112 fun l _ => g10 l = g9 l) ∧ (kPtr v115 fun l _ => g10 l = g9 l) ∧ (C bellowsref26_Run_id [(t 12), v109, (.agg c116.toArray)] g10 n109 fun v117 g11 n117 =>
kNew [(.slice none 0 0), (.slice none 0 0), (.int .i64 0)] .exact g11 n117 fun l18 g12 n18 =>
(kPtr (t 4) fun l _ => g12 l = g11 l) ∧ (kPtr v112 fun l _ => g12 l = g11 l) ∧ (kPtr v115 fun l _ => g12 l = g11 l) ∧ kAgg v117 fun cg13 =>
cg13.length = 3 ∧ kStN g12 l18 0 cg13 fun g13 =>
bellowsref28_Check_j9 C K I_l6 (puts t [(103, (.agg c103.toArray)), (104, (t 3)), (105, (t 15)), (106, v106), (17, v106), (107, (t 12)), (108, (.agg c108.toArray)), (110, (t 2)), (111, (t 15)), (112, v112), (113, v113), (114, (t 16)), (115, v115), (116, (.agg c116.toArray)), (109, v109), (117, v117), (18, (ptr l18 0))]) g13 n18) ∧ (kNew [(.slice none 0 0), (.slice none 0 0), (.int .i64 0)] .exact g10 n109 fun l18 g18 n18 =>
(kPtr (t 4) fun l _ => g18 l = g10 l) ∧ (kPtr v112 fun l _ => g18 l = g10 l) ∧ (kPtr v115 fun l _ => g18 l = g10 l) ∧ C bellowsref26_Run_id [(t 12), v109, (.agg c116.toArray)] g18 n18 fun v117 g19 n117 =>
kAgg v117 fun cg20 =>
cg20.length = 3 ∧ kStN g19 l18 0 cg20 fun g20 =>
bellowsref28_Check_j9 C K I_l6 (puts t [(103, (.agg c103.toArray)), (104, (t 3)), (105, (t 15)), (106, v106), (17, v106), (107, (t 12)), (108, (.agg c108.toArray)), (110, (t 2)), (111, (t 15)), (112, v112), (113, v113), (114, (t 16)), (115, v115), (116, (.agg c116.toArray)), (109, v109), (18, (ptr l18 0)), (117, v117)]) g20 n117)) ∧ (kNew [(.slice none 0 0), (.slice none 0 0), (.int .i64 0)] .exact g9 n106 fun l18 g21 n18 =>
(kPtr (t 4) fun l _ => g21 l = g9 l) ∧ (kPtr v112 fun l _ => g21 l = g9 l) ∧ (kPtr v115 fun l _ => g21 l = g9 l) ∧ C bellowsref22_Room_id [(.agg c108.toArray)] g21 n18 fun v109 g22 n109 =>
(kPtr v112 fun l _ => g22 l = g21 l) ∧ (kPtr v115 fun l _ => g22 l = g21 l) ∧ C bellowsref26_Run_id [(t 12), v109, (.agg c116.toArray)] g22 n109 fun v117 g23 n117 =>
kAgg v117 fun cg24 =>
cg24.length = 3 ∧ kStN g23 l18 0 cg24 fun g24 =>
bellowsref28_Check_j9 C K I_l6 (puts t [(103, (.agg c103.toArray)), (104, (t 3)), (105, (t 15)), (106, v106), (17, v106), (107, (t 12)), (108, (.agg c108.toArray)), (110, (t 2)), (111, (t 15)), (112, v112), (113, v113), (114, (t 16)), (115, v115), (116, (.agg c116.toArray)), (18, (ptr l18 0)), (109, v109), (117, v117)]) g24 n117))

def bellowsref28_Check_j7 (C : CT) (K : Cont) (I_l6 : ECont) (t : Env) (g : G) (n : Nat) : Prop :=
kBin .int .lss (t 15) (.int .i64 0) fun v85 =>
kSplit v85 (
bellowsref28_Check_j8 C K I_l6 (puts t [(84, (t 15)), (85, v85), (86, (.bool true)), (87, undef), (88, undef), (89, undef), (90, undef), (91, (.bool true)), (92, (.bool true)), (93, undef), (94, undef), (95, undef), (96, undef), (97, undef), (98, undef), (99, undef), (100, (.bool true))]) g n) (
kLen (t 2) fun v89 =>
kBin .int .geq (t 15) v89 fun v90 =>
kSplit v90 (
bellowsref28_Check_j8 C K I_l6 (puts t [(84, (t 15)), (85, v85), (86, (.bool false)), (87, (t 15)), (88, (t 2)), (89, v89), (90, v90), (91, v90), (92, (.bool true)), (93, undef), (94, undef), (95, undef), (96, undef), (97, undef), (98, undef), (99, undef), (100, (.bool true))]) g n) (
kIndexAddr (t 2) (t 15) 1 fun v96 =>
kPtr v96 fun l97 o97 =>
kLd g l97 o97 fun v97 =>
kLen v97 fun v98 =>
kBin .int .geq (t 16) v98 fun v99 =>
bellowsref28_Check_j8 C K I_l6 (puts t [(84, (t 15)), (85, v85), (86, (.bool false)), (87, (t 15)), (88, (t 2)), (89, v89), (90, v90), (91, v90), (92, (.bool false)), (93, (t 16)), (94, (t 2)), (95, (t 15)), (96, v96), (97, v97), (98, v98), (99, v99), (100, v99)]) g n))

def bellowsref28_Check_j12 (C : CT) (K : Cont) (t : Env) (g : G) (n : Nat) : Prop :=
kLen (t 11) fun v164 =>
kFill [(.slice none 0 0), (.int .i64 0), (.int .i64 0)] [(0, none, (t 13)), (1, none, v164)] fun c165 =>
kPtr (t 8) fun lg25 og25 =>
kAgg (.agg c165.toArray) fun cg25 =>
cg25.length = 3 ∧ kStN g lg25 og25 cg25 fun g25 =>
kPtr (t 8) fun lr0 or0 =>
kLdN g25 lr0 or0 3 fun r0 =>
aRet K (.agg r0.toArray) g25 n

def bellowsref28_Check_l6 (C : CT) (K : Cont) (I_l6 : ECont) (t : Env) (g : G) (n : Nat) : Prop :=
kLen (t 11) fun v70 =>
kBin .int .lss (t 14) v70 fun v71 =>
kSplit v71 (
kIndexAddr (t 11) (t 14) 2 fun v76 =>
kIndexArr v76 (.int .i64 0) 2 1 fun v77 =>
kPtr v77 fun l78 o78 =>
kLd g l78 o78 fun v78 =>
kIndexAddr (t 11) (t 14) 2 fun v81 =>
kIndexArr v81 (.int .i64 1) 2 1 fun v82 =>
kPtr v82 fun l83 o83 =>
kLd g l83 o83 fun v83 =>
bellowsref28_Check_j7 C K I_l6 (puts t [(68, (t 14)), (69, (t 11)), (70, v70), (71, v71), (74, (t 11)), (75, (t 14)), (76, v76), (77, v77), (78, v78), (79, (t 11)), (80, (t 14)), (81, v81), (82, v82), (83, v83), (15, v78), (16, v83)]) g n) (
bellowsref28_Check_j12 C K (puts t [(68, (t 14)), (69, (t 11)), (70, v70), (71, v71)]) g n)

def bellowsref28_Check_j5 (C : CT) (K : Cont) (t : Env) (g : G) (n : Nat) : Prop :=
kPtr (t 4) fun l64 o64 =>
kLdN g l64 o64 9 fun c64 =>
C bellowsref28_Begins_id [(.agg c64.toArray), (t 3)] g n fun v66 g7 n66 =>
lfp (bellowsref28_Check_l6 C K) (puts t [(64, (.agg c64.toArray)), (65, (t 3)), (66, v66), (11, v66), (67, (t 1)), (12, (t 1)), (13, (.slice none 0 0)), (14, (.int .i64 0))]) g7 n66

def bellowsref28_Check_l2 (C : CT) (K : Cont) (I_l2 : ECont) (t : Env) (g : G) (n : Nat) : Prop :=
kLen (t 2) fun v41 =>
kBin .int .lss (t 9) v41 fun v42 =>
kSplit v42 (
lfp (bellowsref28_Check_l3 C K I_l2) (puts t [(39, (t 9)), (40, (t 2)), (41, v41), (42, v42), (10, (.int .i64 0))]) g n) (
bellowsref28_Check_j5 C K (puts t [(39, (t 9)), (40, (t 2)), (41, v41), (42, v42)]) g n)

def bellowsref28_Check_j1 (C : CT) (K : Cont) (t : Env) (g : G) (n : Nat) : Prop :=
kSplit (t 37) (
kFill [(.slice none 0 0), (.int .i64 0), (.int .i64 0)] [(2, none, (.int .i64 1))] fun c38 =>
kPtr (t 8) fun lg4 og4 =>
kAgg (.agg c38.toArray) fun cg4 =>
cg4.length = 3 ∧ kStN g lg4 og4 cg4 fun g4 =>
kPtr (t 8) fun lr0 or0 =>
kLdN g4 lr0 or0 3 fun r0 =>
aRet K (.agg r0.toArray) g4 n) (
lfp (bellowsref28_Check_l2 C K) (puts t [(9, (.int .i64 0))]) g n)

def bellowsref28_Check (C : CT) (a0 a1 a2 a3 : Value) (g : G) (n : Nat) (K : Cont) : Prop :=
kAgg a0 fun c4 =>
kNew c4 .exact g n fun l4 g1 n4 =>
kNew [(.slice none 0 0), (.int .i64 0), (.int .i64 0)] .exact g1 n4 fun l8 g2 n8 =>
kLdN g2 l4 0 9 fun c20 =>
C bellowsref22_Good_id [(.agg c20.toArray)] g2 n8 fun v21 g3 n21 =>
kUn .not v21 fun v22 =>
kSplit v22 (
bellowsref28_Check_j1 C K (puts (args0 [a0, a1, a2, a3]) [(4, (ptr l4 0)), (8, (ptr l8 0)), (20, (.agg c20.toArray)), (21, v21), (22, v22), (23, (.bool true)), (24, undef), (25, undef), (26, undef), (27, undef), (28, undef), (29, (.bool true)), (30, (.bool true)), (31, undef), (32, undef), (33, undef), (34, undef), (35, undef), (36, undef), (37, (.bool true))]) g3 n21) (
kLen a1 fun v25 =>
kLdN g3 l4 0 9 fun c26 =>
C bellowsref22_Words_id [(.agg c26.toArray)] g3 n21 fun v27 g26 n27 =>
kBin .int .neq v25 v27 fun v28 =>
kSplit v28 (
bellowsref28_Check_j1 C K (puts (args0 [a0, a1, a2, a3]) [(4, (ptr l4 0)), (8, (ptr l8 0)), (20, (.agg c20.toArray)), (21, v21), (22, v22), (23, (.bool false)), (24, a1), (25, v25), (26, (.agg c26.toArray)), (27, v27), (28, v28), (29, v28), (30, (.bool true)), (31, undef), (32, undef), (33, undef), (34, undef), (35, undef), (36, undef), (37, (.bool true))]) g26 n27) (
kLen a2 fun v32 =>
kLd g26 l4 (0 + 0 + 0) fun v35 =>
kBin .int .neq v32 v35 fun v36 =>
bellowsref28_Check_j1 C K (puts (args0 [a0, a1, a2, a3]) [(4, (ptr l4 0)), (8, (ptr l8 0)), (20, (.agg c20.toArray)), (21, v21), (22, v22), (23, (.bool false)), (24, a1), (25, v25), (26, (.agg c26.toArray)), (27, v27), (28, v28), (29, v28), (30, (.bool false)), (31, a2), (32, v32), (33, (ptr l4 (0 + 0))), (34, (ptr l4 (0 + 0 + 0))), (35, v35), (36, v36), (37, v36)]) g26 n27))

theorem bellowsref28_Check_eq (C : CT) (a0 a1 a2 a3 : Value) (g : G) (n : Nat) (K : Cont) : bellowsref28_Check C a0 a1 a2 a3 g n K = abody Try.prog C bellowsref28_Check_id [a0, a1, a2, a3] g n K := by kernel_rfl

/- bellows/bellowskeep.Mod -/
def bellowskeep_Mod (C : CT) (a0 a1 : Value) (g : G) (n : Nat) (K : Cont) : Prop :=
kBin .int .lss a1 (.int .i64 1) fun v6 =>
kSplit v6 (
aRet K (.int .i64 0) g n) (
kBin .int .rem a0 a1 fun v9 =>
kBin .int .add v9 a1 fun v11 =>
kBin .int .rem v11 a1 fun v13 =>
aRet K v13 g n)

theorem bellowskeep_Mod_eq (C : CT) (a0 a1 : Value) (g : G) (n : Nat) (K : Cont) : bellowskeep_Mod C a0 a1 g n K = abody Try.prog C bellowskeep_Mod_id [a0, a1] g n K := by kernel_rfl

/- bellows/bellowskeep.Begins -/
def bellowskeep_Begins (C : CT) (a0 a1 : Value) (g : G) (n : Nat) (K : Cont) : Prop :=
kLen a1 fun v6 =>
kLen a0 fun v8 =>
kBin .int .leq v6 v8 fun v9 =>
kSplit v9 (
kLen a1 fun v13 =>
kSlice a0 none (some v13) none 1 fun v14 =>
C bellowskeep_Words_id [v14, a1] g n fun v16 g1 n16 =>
aRet K v16 g1 n16) (
aRet K (.bool false) g n)

theorem bellowskeep_Begins_eq (C : CT) (a0 a1 : Value) (g : G) (n : Nat) (K : Cont) : bellowskeep_Begins C a0 a1 g n K = abody Try.prog C bellowskeep_Begins_id [a0, a1] g n K := by kernel_rfl

/- bellows/bellowslaw29.wakes -/
def bellowslaw29_wakes (C : CT) (g : G) (n : Nat) (K : Cont) : Prop :=
kFill [(.int .i64 0), (.int .i64 0), (.int .i64 0), (.int .i64 0), (.int .u64 0)] [(0, none, (.int .i64 4)), (1, none, (.int .i64 1))] fun c8 =>
kFill (reps 1 [(.int .i64 0), (.int .i64 0), (.int .i64 0), (.int .i64 0), (.int .u64 0)]) [(0, (some 5), (.agg c8.toArray))] fun c9 =>
kNew c9 .exact g n fun l9 g1 n9 =>
kFill [(.int .i64 0), (.int .i64 0), (.int .u64 0)] [(0, none, (.int .i64 2)), (1, none, (.int .i64 2)), (2, none, (.int .u64 9))] fun c10 =>
kFill (reps 1 [(.int .i64 0), (.int .i64 0), (.int .u64 0)]) [(0, (some 3), (.agg c10.toArray))] fun c11 =>
kNew c11 .exact g1 n9 fun l11 g2 n11 =>
kFill [(.slice none 0 0), (.bool false)] [(0, none, (.slice (some ⟨l11, 0, none⟩) 1 1))] fun c12 =>
kFill (reps 1 [(.slice none 0 0), (.bool false)]) [(0, (some 2), (.agg c12.toArray))] fun c13 =>
kNew c13 .exact g2 n11 fun l13 g3 n13 =>
kFill (reps 2 [(.slice none 0 0)]) [(0, none, (.slice none 0 0)), (1, none, (.slice (some ⟨l13, 0, none⟩) 1 1))] fun c14 =>
kNew c14 .exact g3 n13 fun l14 g4 n14 =>
kMake (.int .i64 8) (.int .i64 8) [(.int .u64 0)] 8 g4 n14 fun v15 g5 n15 =>
C bellowslaw22_Plain_id [] g5 n15 fun v17 g6 n17 =>
C crash_May_id [v17, v15, (.slice (some ⟨l14, 0, none⟩) 2 2), (.slice (some ⟨l9, 0, none⟩) 1 1)] g6 n17 fun v21 g7 n21 =>
kExtract v21 0 fun v22 =>
kExtract v21 1 fun v23 =>
C bellowslaw22_Plain_id [] g7 n21 fun v25 g8 n25 =>
C crash_Sure_id [v25, v15, (.slice (some ⟨l14, 0, none⟩) 2 2), (.slice (some ⟨l9, 0, none⟩) 1 1)] g8 n25 fun v29 g9 n29 =>
kExtract v29 0 fun v30 =>
kExtract v29 1 fun v31 =>
kBin .int .neq v23 (.int .i64 0) fun v33 =>
kSplit v33 (
aRet K (.bool false) g9 n29) (
kBin .int .neq v31 (.int .i64 0) fun v36 =>
kSplit v36 (
aRet K (.bool false) g9 n29) (
kLen v22 fun v40 =>
kBin .int .neq v40 (.int .i64 2) fun v41 =>
kSplit v41 (
aRet K (.bool false) g9 n29) (
kIndexAddr v22 (.int .i64 1) 1 fun v45 =>
kPtr v45 fun l46 o46 =>
kLd g9 l46 o46 fun v46 =>
kLen v46 fun v47 =>
kBin .int .neq v47 (.int .i64 8) fun v48 =>
kSplit v48 (
aRet K (.bool false) g9 n29) (
kIndexAddr v22 (.int .i64 1) 1 fun v52 =>
kPtr v52 fun l53 o53 =>
kLd g9 l53 o53 fun v53 =>
kIndexAddr v53 (.int .i64 2) 1 fun v54 =>
kPtr v54 fun l55 o55 =>
kLd g9 l55 o55 fun v55 =>
kBin .int .neq v55 (.int .u64 9) fun v56 =>
kSplit v56 (
aRet K (.bool false) g9 n29) (
kLen v30 fun v60 =>
kBin .int .neq v60 (.int .i64 0) fun v61 =>
kSplit v61 (
aRet K (.bool false) g9 n29) (
C bellowslaw22_Plain_id [] g9 n29 fun v63 g10 n63 =>
C crash_Check_id [v63, v15, (.slice (some ⟨l14, 0, none⟩) 2 2), (.slice (some ⟨l9, 0, none⟩) 1 1), v15] g10 n63 fun v68 g11 n68 =>
kSplit v68 (
kIndexAddr v22 (.int .i64 1) 1 fun v75 =>
kPtr v75 fun l76 o76 =>
kLd g11 l76 o76 fun v76 =>
C bellowslaw22_Plain_id [] g11 n68 fun v70 g12 n70 =>
(kPtr v75 fun l _ => g12 l = g11 l) ∧ C crash_Check_id [v70, v15, (.slice (some ⟨l14, 0, none⟩) 2 2), (.slice (some ⟨l9, 0, none⟩) 1 1), v76] g12 n70 fun v77 g13 n77 =>
kSplit v77 (
(C bellowslaw22_Plain_id [] g13 n77 fun v80 g14 n80 =>
kFill (reps 8 [(.int .u64 0)]) [(0, none, (.int .u64 5)), (1, none, (.int .u64 0)), (2, none, (.int .u64 0)), (3, none, (.int .u64 0)), (4, none, (.int .u64 0)), (5, none, (.int .u64 0)), (6, none, (.int .u64 0)), (7, none, (.int .u64 0))] fun c84 =>
kNew c84 .exact g14 n80 fun l84 g15 n84 =>
C crash_Check_id [v80, v15, (.slice (some ⟨l14, 0, none⟩) 2 2), (.slice (some ⟨l9, 0, none⟩) 1 1), (.slice (some ⟨l84, 0, none⟩) 8 8)] g15 n84 fun v85 g16 n85 =>
kUn .not v85 fun v86 =>
aRet K v86 g16 n85) ∧ (kFill (reps 8 [(.int .u64 0)]) [(0, none, (.int .u64 5)), (1, none, (.int .u64 0)), (2, none, (.int .u64 0)), (3, none, (.int .u64 0)), (4, none, (.int .u64 0)), (5, none, (.int .u64 0)), (6, none, (.int .u64 0)), (7, none, (.int .u64 0))] fun c84 =>
kNew c84 .exact g13 n77 fun l84 g17 n84 =>
C bellowslaw22_Plain_id [] g17 n84 fun v80 g18 n80 =>
C crash_Check_id [v80, v15, (.slice (some ⟨l14, 0, none⟩) 2 2), (.slice (some ⟨l9, 0, none⟩) 1 1), (.slice (some ⟨l84, 0, none⟩) 8 8)] g18 n80 fun v85 g19 n85 =>
kUn .not v85 fun v86 =>
aRet K v86 g19 n85)) (
(aRet K (.bool false) g13 n77) ∧ (aRet K (.bool false) g13 n77))) (
(aRet K (.bool false) g11 n68) ∧ (aRet K (.bool false) g11 n68))))))))

theorem bellowslaw29_wakes_eq (C : CT) (g : G) (n : Nat) (K : Cont) : bellowslaw29_wakes C g n K = abody Try.prog C bellowslaw29_wakes_id [] g n K := by kernel_rfl

/- bellows/crash.May -/
def crash_May (C : CT) (a0 a1 a2 a3 : Value) (g : G) (n : Nat) (K : Cont) : Prop :=
kAgg a0 fun c4 =>
kNew c4 .exact g n fun l4 g1 n4 =>
kLdN g1 l4 0 9 fun c13 =>
C crash_of_id [(.agg c13.toArray), a1, a2, a3] g1 n4 fun v17 g2 n17 =>
kExtract v17 0 fun v18 =>
kExtract v17 1 fun v19 =>
kNew [(.slice none 0 0), (.slice none 0 0), (.slice none 0 0)] .exact g2 n17 fun l10 g3 n10 =>
kAgg v18 fun cg4 =>
cg4.length = 3 ∧ kStN g3 l10 0 cg4 fun g4 =>
kBin .int .neq v19 (.int .i64 0) fun v22 =>
kSplit v22 (
aRet K (.tuple #[(.slice none 0 0), v19]) g4 n10) (
kLd g4 l10 (0 + 2) fun v26 =>
kBin .slice .neq v26 (.slice none 0 0) fun v27 =>
kSplit v27 (
kLd g4 l10 (0 + 1) fun v29 =>
kLd g4 l10 (0 + 2) fun v31 =>
kFill (reps 2 [(.slice none 0 0)]) [(0, none, v29), (1, none, v31)] fun c32 =>
kNew c32 .exact g4 n10 fun l32 g5 n32 =>
aRet K (.tuple #[(.slice (some ⟨l32, 0, none⟩) 2 2), (.int .i64 0)]) g5 n32) (
kLd g4 l10 (0 + 1) fun v34 =>
kFill (reps 1 [(.slice none 0 0)]) [(0, none, v34)] fun c35 =>
kNew c35 .exact g4 n10 fun l35 g6 n35 =>
aRet K (.tuple #[(.slice (some ⟨l35, 0, none⟩) 1 1), (.int .i64 0)]) g6 n35))

theorem crash_May_eq (C : CT) (a0 a1 a2 a3 : Value) (g : G) (n : Nat) (K : Cont) : crash_May C a0 a1 a2 a3 g n K = abody Try.prog C crash_May_id [a0, a1, a2, a3] g n K := by kernel_rfl

/- bellows/crash.Sure -/
def crash_Sure (C : CT) (a0 a1 a2 a3 : Value) (g : G) (n : Nat) (K : Cont) : Prop :=
kAgg a0 fun c4 =>
kNew c4 .exact g n fun l4 g1 n4 =>
kLdN g1 l4 0 9 fun c13 =>
C crash_of_id [(.agg c13.toArray), a1, a2, a3] g1 n4 fun v17 g2 n17 =>
kExtract v17 0 fun v18 =>
kExtract v17 1 fun v19 =>
kNew [(.slice none 0 0), (.slice none 0 0), (.slice none 0 0)] .exact g2 n17 fun l10 g3 n10 =>
kAgg v18 fun cg4 =>
cg4.length = 3 ∧ kStN g3 l10 0 cg4 fun g4 =>
kLd g4 l10 (0 + 0) fun v21 =>
aRet K (.tuple #[v21, v19]) g4 n10

theorem crash_Sure_eq (C : CT) (a0 a1 a2 a3 : Value) (g : G) (n : Nat) (K : Cont) : crash_Sure C a0 a1 a2 a3 g n K = abody Try.prog C crash_Sure_id [a0, a1, a2, a3] g n K := by kernel_rfl

/- bellows/bellowsref29.May -/
def bellowsref29_May_j3 (C : CT) (K : Cont) (I_l1 : ECont) (t : Env) (g : G) (n : Nat) : Prop :=
kBin .int .add (t 12) (.int .i64 1) fun v34 =>
I_l1 (puts t [(33, (t 12)), (34, v34), (12, v34)]) g n

def bellowsref29_May_j4 (C : CT) (K : Cont) (I_l1 : ECont) (t : Env) (g : G) (n : Nat) : Prop :=
kPtr (t 10) fun l71 o71 =>
kLdN g l71 o71 3 fun c71 =>
kPtr (t 8) fun lg18 og18 =>
kAgg (.agg c71.toArray) fun cg18 =>
cg18.length = 3 ∧ kStN g lg18 og18 cg18 fun g18 =>
kPtr (t 8) fun lr0 or0 =>
kLdN g18 lr0 or0 3 fun r0 =>
aRet K (.agg r0.toArray) g18 n

def bellowsref29_May_j2 (C : CT) (K : Cont) (I_l1 : ECont) (t : Env) (g : G) (n : Nat) : Prop :=
kPtr (t 13) fun l56 o56 =>
kLdN g l56 (o56 + 2) 3 fun c57 =>
C bellowsref26_Ran_Taken_id [(.agg c57.toArray)] g n fun v58 g11 n58 =>
kSplit v58 (
bellowsref29_May_j3 C K I_l1 (puts t [(56, (ptr l56 (o56 + 2))), (57, (.agg c57.toArray)), (58, v58)]) g11 n58) (
kUn .not (t 14) fun v60 =>
kSplit v60 (
kPtr (t 13) fun l65 o65 =>
kLd g11 l65 (o65 + 2 + 0) fun v67 =>
(kFill (reps 0 [(.int .u64 0)]) [] fun c61 =>
kNew c61 .exact g11 n58 fun l61 g12 n61 =>
(kPtr (ptr l65 (o65 + 2 + 0)) fun l _ => g12 l = g11 l) ∧ (kAppend (.slice (some ⟨l61, 0, none⟩) 0 0) (t 11) 1 8 g12 n61 fun v63 g13 n63 =>
(kPtr (ptr l65 (o65 + 2 + 0)) fun l _ => g13 l = g12 l) ∧ kFill (reps 0 [(.int .u64 0)]) [] fun c64 =>
kNew c64 .exact g13 n63 fun l64 g14 n64 =>
(kPtr (ptr l65 (o65 + 2 + 0)) fun l _ => g14 l = g13 l) ∧ kAppend (.slice (some ⟨l64, 0, none⟩) 0 0) v67 1 8 g14 n64 fun v68 g15 n68 =>
kFill (reps 2 [(.slice none 0 0)]) [(0, none, v63), (1, none, v68)] fun c69 =>
kNew c69 .exact g15 n68 fun l69 g16 n69 =>
kPtr (t 10) fun l70 o70 =>
kSt g16 l70 (o70 + 1) (.slice (some ⟨l69, 0, none⟩) 2 2) fun g17 =>
bellowsref29_May_j4 C K I_l1 (puts t [(56, (ptr l56 (o56 + 2))), (57, (.agg c57.toArray)), (58, v58), (59, (t 14)), (60, v60), (62, (t 11)), (65, (ptr l65 (o65 + 2))), (66, (ptr l65 (o65 + 2 + 0))), (67, v67), (61, (.slice (some ⟨l61, 0, none⟩) 0 0)), (63, v63), (64, (.slice (some ⟨l64, 0, none⟩) 0 0)), (68, v68), (69, (.slice (some ⟨l69, 0, none⟩) 2 2)), (70, (ptr l70 (o70 + 1)))]) g17 n69) ∧ (kFill (reps 0 [(.int .u64 0)]) [] fun c64 =>
kNew c64 .exact g12 n61 fun l64 g19 n64 =>
(kPtr (ptr l65 (o65 + 2 + 0)) fun l _ => g19 l = g12 l) ∧ kAppend (.slice (some ⟨l61, 0, none⟩) 0 0) (t 11) 1 8 g19 n64 fun v63 g20 n63 =>
(kPtr (ptr l65 (o65 + 2 + 0)) fun l _ => g20 l = g19 l) ∧ kAppend (.slice (some ⟨l64, 0, none⟩) 0 0) v67 1 8 g20 n63 fun v68 g21 n68 =>
kFill (reps 2 [(.slice none 0 0)]) [(0, none, v63), (1, none, v68)] fun c69 =>
kNew c69 .exact g21 n68 fun l69 g22 n69 =>
kPtr (t 10) fun l70 o70 =>
kSt g22 l70 (o70 + 1) (.slice (some ⟨l69, 0, none⟩) 2 2) fun g23 =>
bellowsref29_May_j4 C K I_l1 (puts t [(56, (ptr l56 (o56 + 2))), (57, (.agg c57.toArray)), (58, v58), (59, (t 14)), (60, v60), (62, (t 11)), (65, (ptr l65 (o65 + 2))), (66, (ptr l65 (o65 + 2 + 0))), (67, v67), (61, (.slice (some ⟨l61, 0, none⟩) 0 0)), (64, (.slice (some ⟨l64, 0, none⟩) 0 0)), (63, v63), (68, v68), (69, (.slice (some ⟨l69, 0, none⟩) 2 2)), (70, (ptr l70 (o70 + 1)))]) g23 n69)) ∧ (kFill (reps 0 [(.int .u64 0)]) [] fun c64 =>
kNew c64 .exact g11 n58 fun l64 g24 n64 =>
(kPtr (ptr l65 (o65 + 2 + 0)) fun l _ => g24 l = g11 l) ∧ kFill (reps 0 [(.int .u64 0)]) [] fun c61 =>
kNew c61 .exact g24 n64 fun l61 g25 n61 =>
(kPtr (ptr l65 (o65 + 2 + 0)) fun l _ => g25 l = g24 l) ∧ kAppend (.slice (some ⟨l61, 0, none⟩) 0 0) (t 11) 1 8 g25 n61 fun v63 g26 n63 =>
(kPtr (ptr l65 (o65 + 2 + 0)) fun l _ => g26 l = g25 l) ∧ kAppend (.slice (some ⟨l64, 0, none⟩) 0 0) v67 1 8 g26 n63 fun v68 g27 n68 =>
kFill (reps 2 [(.slice none 0 0)]) [(0, none, v63), (1, none, v68)] fun c69 =>
kNew c69 .exact g27 n68 fun l69 g28 n69 =>
kPtr (t 10) fun l70 o70 =>
kSt g28 l70 (o70 + 1) (.slice (some ⟨l69, 0, none⟩) 2 2) fun g29 =>
bellowsref29_May_j4 C K I_l1 (puts t [(56, (ptr l56 (o56 + 2))), (57, (.agg c57.toArray)), (58, v58), (59, (t 14)), (60, v60), (62, (t 11)), (65, (ptr l65 (o65 + 2))), (66, (ptr l65 (o65 + 2 + 0))), (67, v67), (64, (.slice (some ⟨l64, 0, none⟩) 0 0)), (61, (.slice (some ⟨l61, 0, none⟩) 0 0)), (63, v63), (68, v68), (69, (.slice (some ⟨l69, 0, none⟩) 2 2)), (70, (ptr l70 (o70 + 1)))]) g29 n69)) (
kPtr (t 10) fun l72 o72 =>
kLd g11 l72 (o72 + 0) fun v73 =>
kFill (reps 1 [(.int .i64 0)]) [(0, none, (t 12))] fun c75 =>
kNew c75 .exact g11 n58 fun l75 g30 n75 =>
kAppend v73 (.slice (some ⟨l75, 0, none⟩) 1 1) 1 8 g30 n75 fun v76 g31 n76 =>
kPtr (t 10) fun l77 o77 =>
kSt g31 l77 (o77 + 0) v76 fun g32 =>
kPtr (t 13) fun l78 o78 =>
kLd g32 l78 (o78 + 2 + 0) fun v80 =>
bellowsref29_May_j3 C K I_l1 (puts t [(56, (ptr l56 (o56 + 2))), (57, (.agg c57.toArray)), (58, v58), (59, (t 14)), (60, v60), (72, (ptr l72 (o72 + 0))), (73, v73), (74, (t 12)), (75, (.slice (some ⟨l75, 0, none⟩) 1 1)), (76, v76), (77, (ptr l77 (o77 + 0))), (78, (ptr l78 (o78 + 2))), (79, (ptr l78 (o78 + 2 + 0))), (80, v80), (11, v80)]) g32 n76))

def bellowsref29_May_j5 (C : CT) (K : Cont) (t : Env) (g : G) (n : Nat) : Prop :=
kFill (reps 0 [(.int .u64 0)]) [] fun c81 =>
kNew c81 .exact g n fun l81 g33 n81 =>
kAppend (.slice (some ⟨l81, 0, none⟩) 0 0) (t 11) 1 8 g33 n81 fun v83 g34 n83 =>
kFill (reps 1 [(.slice none 0 0)]) [(0, none, v83)] fun c84 =>
kNew c84 .exact g34 n83 fun l84 g35 n84 =>
kPtr (t 10) fun l85 o85 =>
kSt g35 l85 (o85 + 1) (.slice (some ⟨l84, 0, none⟩) 1 1) fun g36 =>
kPtr (t 10) fun l86 o86 =>
kLdN g36 l86 o86 3 fun c86 =>
kPtr (t 8) fun lg37 og37 =>
kAgg (.agg c86.toArray) fun cg37 =>
cg37.length = 3 ∧ kStN g36 lg37 og37 cg37 fun g37 =>
kPtr (t 8) fun lr0 or0 =>
kLdN g37 lr0 or0 3 fun r0 =>
aRet K (.agg r0.toArray) g37 n84

def bellowsref29_May_l1 (C : CT) (K : Cont) (I_l1 : ECont) (t : Env) (g : G) (n : Nat) : Prop :=
kPtr (t 9) fun l29 o29 =>
kLd g l29 (o29 + 0) fun v30 =>
kLen v30 fun v31 =>
kBin .int .lss (t 12) v31 fun v32 =>
kSplit v32 (
kPtr (t 9) fun l35 o35 =>
kLd g l35 (o35 + 0) fun v36 =>
kIndexAddr v36 (t 12) 7 fun v38 =>
kPtr v38 fun l39 o39 =>
kLdN g l39 o39 7 fun c39 =>
kNew [(.int .i64 0), (.int .i64 0), (.slice none 0 0), (.slice none 0 0), (.int .i64 0), (.slice none 0 0), (.bool false)] .exact g n fun l13 g9 n13 =>
kAgg (.agg c39.toArray) fun cg10 =>
cg10.length = 7 ∧ kStN g9 l13 0 cg10 fun g10 =>
kPtr (t 9) fun l41 o41 =>
kLd g10 l41 (o41 + 0) fun v42 =>
kLen v42 fun v43 =>
kBin .int .sub v43 (.int .i64 1) fun v44 =>
kBin .int .lss (t 12) v44 fun v45 =>
kSplit v45 (
bellowsref29_May_j2 C K I_l1 (puts t [(28, (t 12)), (29, (ptr l29 (o29 + 0))), (30, v30), (31, v31), (32, v32), (35, (ptr l35 (o35 + 0))), (36, v36), (37, (t 12)), (38, v38), (39, (.agg c39.toArray)), (13, (ptr l13 0)), (40, (t 12)), (41, (ptr l41 (o41 + 0))), (42, v42), (43, v43), (44, v44), (45, v45), (46, (.bool true)), (47, undef), (48, undef), (49, undef), (50, undef), (51, undef), (52, undef), (53, undef), (54, undef), (55, (.bool true)), (14, (.bool true))]) g10 n13) (
kLd g10 l13 (0 + 5) fun v48 =>
kLen v48 fun v49 =>
kLd g10 l13 (0 + 2 + 1) fun v52 =>
kLen v52 fun v53 =>
kBin .int .eql v49 v53 fun v54 =>
bellowsref29_May_j2 C K I_l1 (puts t [(28, (t 12)), (29, (ptr l29 (o29 + 0))), (30, v30), (31, v31), (32, v32), (35, (ptr l35 (o35 + 0))), (36, v36), (37, (t 12)), (38, v38), (39, (.agg c39.toArray)), (13, (ptr l13 0)), (40, (t 12)), (41, (ptr l41 (o41 + 0))), (42, v42), (43, v43), (44, v44), (45, v45), (46, (.bool false)), (47, (ptr l13 (0 + 5))), (48, v48), (49, v49), (50, (ptr l13 (0 + 2))), (51, (ptr l13 (0 + 2 + 1))), (52, v52), (53, v53), (54, v54), (55, v54), (14, v54)]) g10 n13)) (
bellowsref29_May_j5 C K (puts t [(28, (t 12)), (29, (ptr l29 (o29 + 0))), (30, v30), (31, v31), (32, v32)]) g n)

def bellowsref29_May (C : CT) (a0 a1 a2 a3 : Value) (g : G) (n : Nat) (K : Cont) : Prop :=
kAgg a0 fun c4 =>
kNew c4 .exact g n fun l4 g1 n4 =>
kNew [(.slice none 0 0), (.slice none 0 0), (.int .i64 0)] .exact g1 n4 fun l8 g2 n8 =>
kLdN g2 l4 0 9 fun c15 =>
C bellowsref28_Check_id [(.agg c15.toArray), a1, a2, a3] g2 n8 fun v19 g3 n19 =>
kNew [(.slice none 0 0), (.int .i64 0), (.int .i64 0)] .exact g3 n19 fun l9 g4 n9 =>
kAgg v19 fun cg5 =>
cg5.length = 3 ∧ kStN g4 l9 0 cg5 fun g5 =>
kLd g5 l9 (0 + 2) fun v21 =>
kBin .int .neq v21 (.int .i64 0) fun v22 =>
kSplit v22 (
kLd g5 l9 (0 + 2) fun v24 =>
kFill [(.slice none 0 0), (.slice none 0 0), (.int .i64 0)] [(2, none, v24)] fun c25 =>
kAgg (.agg c25.toArray) fun cg6 =>
cg6.length = 3 ∧ kStN g5 l8 0 cg6 fun g6 =>
kLdN g6 l8 0 3 fun r0 =>
aRet K (.agg r0.toArray) g6 n9) (
kFill [(.slice none 0 0), (.slice none 0 0), (.int .i64 0)] [] fun c26 =>
kNew [(.slice none 0 0), (.slice none 0 0), (.int .i64 0)] .exact g5 n9 fun l10 g7 n10 =>
kAgg (.agg c26.toArray) fun cg8 =>
cg8.length = 3 ∧ kStN g7 l10 0 cg8 fun g8 =>
lfp (bellowsref29_May_l1 C K) (puts (args0 [a0, a1, a2, a3]) [(4, (ptr l4 0)), (8, (ptr l8 0)), (15, (.agg c15.toArray)), (16, a1), (17, a2), (18, a3), (19, v19), (9, (ptr l9 0)), (20, (ptr l9 (0 + 2))), (21, v21), (22, v22), (26, (.agg c26.toArray)), (10, (ptr l10 0)), (27, a1), (11, a1), (12, (.int .i64 0))]) g8 n10)

theorem bellowsref29_May_eq (C : CT) (a0 a1 a2 a3 : Value) (g : G) (n : Nat) (K : Cont) : bellowsref29_May C a0 a1 a2 a3 g n K = abody Try.prog C bellowsref29_May_id [a0, a1, a2, a3] g n K := by kernel_rfl

/- bellows/bellowskeep.Ints -/
def bellowskeep_Ints_l1 (C : CT) (K : Cont) (I_l1 : ECont) (t : Env) (g : G) (n : Nat) : Prop :=
kLen (t 0) fun v13 =>
kBin .int .lss (t 5) v13 fun v14 =>
kSplit v14 (
kIndexAddr (t 0) (t 5) 1 fun v19 =>
kPtr v19 fun l20 o20 =>
kLd g l20 o20 fun v20 =>
kIndexAddr (t 1) (t 5) 1 fun v23 =>
kPtr v23 fun l24 o24 =>
kLd g l24 o24 fun v24 =>
kBin .int .neq v20 v24 fun v25 =>
kSplit v25 (
aRet K (.bool false) g n) (
kBin .int .add (t 5) (.int .i64 1) fun v16 =>
I_l1 (puts t [(11, (t 5)), (12, (t 0)), (13, v13), (14, v14), (17, (t 0)), (18, (t 5)), (19, v19), (20, v20), (21, (t 1)), (22, (t 5)), (23, v23), (24, v24), (25, v25), (15, (t 5)), (16, v16), (5, v16)]) g n)) (
aRet K (.bool true) g n)

def bellowskeep_Ints (C : CT) (a0 a1 : Value) (g : G) (n : Nat) (K : Cont) : Prop :=
kLen a0 fun v7 =>
kLen a1 fun v9 =>
kBin .int .neq v7 v9 fun v10 =>
kSplit v10 (
aRet K (.bool false) g n) (
lfp (bellowskeep_Ints_l1 C K) (puts (args0 [a0, a1]) [(4, (.bool false)), (6, a0), (7, v7), (8, a1), (9, v9), (10, v10), (5, (.int .i64 0))]) g n)

theorem bellowskeep_Ints_eq (C : CT) (a0 a1 : Value) (g : G) (n : Nat) (K : Cont) : bellowskeep_Ints C a0 a1 g n K = abody Try.prog C bellowskeep_Ints_id [a0, a1] g n K := by kernel_rfl

/- bellows/crash.Check -/
def crash_Check (C : CT) (a0 a1 a2 a3 a4 : Value) (g : G) (n : Nat) (K : Cont) : Prop :=
kAgg a0 fun c5 =>
kNew c5 .exact g n fun l5 g1 n5 =>
kLdN g1 l5 0 9 fun c14 =>
C crash_May_id [(.agg c14.toArray), a1, a2, a3] g1 n5 fun v18 g2 n18 =>
kExtract v18 0 fun v19 =>
kExtract v18 1 fun v20 =>
kBin .int .eql v20 (.int .i64 0) fun v22 =>
kSplit v22 (
C crash_among_uint64_id [a4, v19, (.func (.func slices_Equal_uint64_uint64_id) #[] #[])] g2 n18 fun v26 g3 n26 =>
aRet K v26 g3 n26) (
aRet K (.bool false) g2 n18)

theorem crash_Check_eq (C : CT) (a0 a1 a2 a3 a4 : Value) (g : G) (n : Nat) (K : Cont) : crash_Check C a0 a1 a2 a3 a4 g n K = abody Try.prog C crash_Check_id [a0, a1, a2, a3, a4] g n K := by kernel_rfl

/- bellows/bellowslaw22.Plain -/
def bellowslaw22_Plain (C : CT) (g : G) (n : Nat) (K : Cont) : Prop :=
kNew [(.int .i64 0), (.int .i64 0), (.int .i64 0), (.int .i64 0), (.int .i64 0), (.int .i64 0), (.int .i64 0), (.int .i64 0), (.int .i64 0)] .exact g n fun l0 g1 n0 =>
kFill [(.int .i64 0), (.int .i64 0), (.int .i64 0), (.int .i64 0), (.int .i64 0), (.int .i64 0), (.int .i64 0)] [(0, none, (.int .i64 2)), (1, none, (.int .i64 5)), (2, none, (.int .i64 1)), (3, none, (.int .i64 1)), (4, none, (.int .i64 2)), (5, none, (.int .i64 2)), (6, none, (.int .i64 2))] fun c1 =>
kFill [(.int .i64 0), (.int .i64 0), (.int .i64 0), (.int .i64 0), (.int .i64 0), (.int .i64 0), (.int .i64 0), (.int .i64 0), (.int .i64 0)] [(0, (some 7), (.agg c1.toArray)), (7, none, (.int .i64 2)), (8, none, (.int .i64 1))] fun c2 =>
kAgg (.agg c2.toArray) fun cg2 =>
cg2.length = 9 ∧ kStN g1 l0 0 cg2 fun g2 =>
kLdN g2 l0 0 9 fun r0 =>
aRet K (.agg r0.toArray) g2 n0

theorem bellowslaw22_Plain_eq (C : CT) (g : G) (n : Nat) (K : Cont) : bellowslaw22_Plain C g n K = abody Try.prog C bellowslaw22_Plain_id [] g n K := by kernel_rfl

/- bellows/layout.Good -/
def layout_Good (C : CT) (a0 : Value) (g : G) (n : Nat) (K : Cont) : Prop :=
kAgg a0 fun c1 =>
kNew c1 .exact g n fun l1 g1 n1 =>
kLdN g1 l1 0 9 fun c3 =>
C layout_of_id [(.agg c3.toArray)] g1 n1 fun v4 g2 n4 =>
kNil v4 fun v5 =>
kPtr v5 fun l6 o6 =>
kLd g2 l6 (o6 + 3) fun v7 =>
aRet K v7 g2 n4

theorem layout_Good_eq (C : CT) (a0 : Value) (g : G) (n : Nat) (K : Cont) : layout_Good C a0 g n K = abody Try.prog C layout_Good_id [a0] g n K := by kernel_rfl

/- bellows/trace.Cut -/
def trace_Cut_l1 (C : CT) (K : Cont) (I_l1 : ECont) (t : Env) (g : G) (n : Nat) : Prop :=
kBin .int .lss (t 10) (t 9) fun v11 =>
kSplit v11 (
kIndexAddr (t 8) (t 10) 5 fun v12 =>
kPtr v12 fun l13 o13 =>
kLdN g l13 o13 5 fun c13 =>
kNew [(.int .i64 0), (.int .i64 0), (.int .i64 0), (.int .i64 0), (.int .u64 0)] .exact g n fun l5 g2 n5 =>
kAgg (.agg c13.toArray) fun cg3 =>
cg3.length = 5 ∧ kStN g2 l5 0 cg3 fun g3 =>
kLd g3 l5 (0 + 0) fun v15 =>
kBin .int .eql v15 (.int .i64 11) fun v16 =>
kSplit v16 (
kFill (reps 1 [(.slice none 0 0)]) [(0, none, (.slice none 0 0))] fun c18 =>
kNew c18 .exact g3 n5 fun l18 g4 n18 =>
kAppend (t 3) (.slice (some ⟨l18, 0, none⟩) 1 1) 1 24 g4 n18 fun v19 g5 n19 =>
kBin .int .add (t 10) (.int .i64 1) fun v33 =>
I_l1 (puts t [(11, v11), (12, v12), (13, (.agg c13.toArray)), (5, (ptr l5 0)), (14, (ptr l5 (0 + 0))), (15, v15), (16, v16), (17, (t 3)), (18, (.slice (some ⟨l18, 0, none⟩) 1 1)), (19, v19), (3, v19), (33, v33), (10, v33)]) g5 n19) (
kLen (t 3) fun v21 =>
kBin .int .sub v21 (.int .i64 1) fun v22 =>
kIndexAddr (t 3) v22 1 fun v27 =>
kPtr v27 fun l28 o28 =>
kLd g3 l28 o28 fun v28 =>
kLdN g3 l5 0 5 fun c29 =>
kFill (reps 1 [(.int .i64 0), (.int .i64 0), (.int .i64 0), (.int .i64 0), (.int .u64 0)]) [(0, (some 5), (.agg c29.toArray))] fun c30 =>
kNew c30 .exact g3 n5 fun l30 g6 n30 =>
(kPtr v27 fun l _ => g6 l = g3 l) ∧ kAppend v28 (.slice (some ⟨l30, 0, none⟩) 1 1) 5 40 g6 n30 fun v31 g7 n31 =>
kIndexAddr (t 3) v22 1 fun v32 =>
kPtr v32 fun lg8 og8 =>
kSt g7 lg8 og8 v31 fun g8 =>
kBin .int .add (t 10) (.int .i64 1) fun v33 =>
I_l1 (puts t [(11, v11), (12, v12), (13, (.agg c13.toArray)), (5, (ptr l5 0)), (14, (ptr l5 (0 + 0))), (15, v15), (16, v16), (20, (t 3)), (21, v21), (22, v22), (6, v22), (23, (t 3)), (24, v22), (25, (t 3)), (26, v22), (27, v27), (28, v28), (29, (.agg c29.toArray)), (30, (.slice (some ⟨l30, 0, none⟩) 1 1)), (31, v31), (32, v32), (33, v33), (10, v33)]) g8 n31)) (
aRet K (t 3) g n)

def trace_Cut (C : CT) (a0 : Value) (g : G) (n : Nat) (K : Cont) : Prop :=
kFill (reps 1 [(.slice none 0 0)]) [(0, none, (.slice none 0 0))] fun c7 =>
kNew c7 .exact g n fun l7 g1 n7 =>
kLen a0 fun v9 =>
lfp (trace_Cut_l1 C K) (puts (args0 [a0]) [(2, (.slice none 0 0)), (7, (.slice (some ⟨l7, 0, none⟩) 1 1)), (3, (.slice (some ⟨l7, 0, none⟩) 1 1)), (8, a0), (9, v9), (10, (.int .i64 0))]) g1 n7

theorem trace_Cut_eq (C : CT) (a0 : Value) (g : G) (n : Nat) (K : Cont) : trace_Cut C a0 g n K = abody Try.prog C trace_Cut_id [a0] g n K := by kernel_rfl

/- bellows/serial.begins -/
def serial_begins (C : CT) (a0 : Value) (g : G) (n : Nat) (K : Cont) : Prop :=
kAgg a0 fun c1 =>
kNew c1 .exact g n fun l1 g1 n1 =>
kLd g1 l1 (0 + 0) fun v4 =>
kBin .int .eql v4 (.int .i64 4) fun v5 =>
kSplit v5 (
kLd g1 l1 (0 + 2) fun v8 =>
kBin .int .eql v8 (.int .i64 0) fun v9 =>
kSplit v9 (
kLd g1 l1 (0 + 3) fun v13 =>
kBin .int .eql v13 (.int .i64 0) fun v14 =>
kSplit v14 (
kLd g1 l1 (0 + 4) fun v18 =>
kBin .int .eql v18 (.int .u64 0) fun v19 =>
aRet K v19 g1 n1) (
aRet K (.bool false) g1 n1)) (
aRet K (.bool false) g1 n1)) (
aRet K (.bool false) g1 n1)

theorem serial_begins_eq (C : CT) (a0 : Value) (g : G) (n : Nat) (K : Cont) : serial_begins C a0 g n K = abody Try.prog C serial_begins_id [a0] g n K := by kernel_rfl

/- bellows/bellowsref22.Good -/
def bellowsref22_Good (C : CT) (a0 : Value) (g : G) (n : Nat) (K : Cont) : Prop :=
kAgg a0 fun c1 =>
kNew c1 .exact g n fun l1 g1 n1 =>
kLdN g1 l1 (0 + 0) 7 fun c4 =>
C bellowsref01_Good_id [(.agg c4.toArray)] g1 n1 fun v5 g2 n5 =>
kSplit v5 (
kLd g2 l1 (0 + 7) fun v8 =>
kBin .int .geq v8 (.int .i64 1) fun v9 =>
kSplit v9 (
kLd g2 l1 (0 + 7) fun v13 =>
kBin .int .leq v13 (.int .i64 16) fun v14 =>
kSplit v14 (
kLd g2 l1 (0 + 8) fun v18 =>
kBin .int .geq v18 (.int .i64 1) fun v19 =>
kSplit v19 (
kLd g2 l1 (0 + 8) fun v23 =>
kBin .int .leq v23 (.int .i64 16) fun v24 =>
kSplit v24 (
kLd g2 l1 (0 + 0 + 1) fun v29 =>
kLd g2 l1 (0 + 0 + 2) fun v32 =>
kBin .int .add v32 (.int .i64 1) fun v33 =>
kLd g2 l1 (0 + 7) fun v35 =>
kBin .int .add v33 v35 fun v36 =>
kLd g2 l1 (0 + 8) fun v38 =>
kBin .int .add v36 v38 fun v39 =>
kBin .int .geq v29 v39 fun v40 =>
aRet K v40 g2 n5) (
aRet K (.bool false) g2 n5)) (
aRet K (.bool false) g2 n5)) (
aRet K (.bool false) g2 n5)) (
aRet K (.bool false) g2 n5)) (
aRet K (.bool false) g2 n5)

theorem bellowsref22_Good_eq (C : CT) (a0 : Value) (g : G) (n : Nat) (K : Cont) : bellowsref22_Good C a0 g n K = abody Try.prog C bellowsref22_Good_id [a0] g n K := by kernel_rfl

/- bellows/bellowsref28.First -/
def bellowsref28_First_l1 (C : CT) (K : Cont) (I_l1 : ECont) (t : Env) (g : G) (n : Nat) : Prop :=
kLen (t 0) fun v6 =>
kBin .int .lss (t 3) v6 fun v7 =>
kSplit v7 (
kIndexAddr (t 0) (t 3) 5 fun v12 =>
kPtr v12 fun l13 o13 =>
kLd g l13 (o13 + 0) fun v14 =>
kBin .int .eql v14 (.int .i64 11) fun v15 =>
kSplit v15 (
kSlice (t 0) none (some (t 3)) none 5 fun v18 =>
aRet K v18 g n) (
kBin .int .add (t 3) (.int .i64 1) fun v9 =>
I_l1 (puts t [(4, (t 3)), (5, (t 0)), (6, v6), (7, v7), (10, (t 0)), (11, (t 3)), (12, v12), (13, (ptr l13 (o13 + 0))), (14, v14), (15, v15), (8, (t 3)), (9, v9), (3, v9)]) g n)) (
aRet K (t 0) g n)

def bellowsref28_First (C : CT) (a0 : Value) (g : G) (n : Nat) (K : Cont) : Prop :=
lfp (bellowsref28_First_l1 C K) (puts (args0 [a0]) [(2, (.slice none 0 0)), (3, (.int .i64 0))]) g n

theorem bellowsref28_First_eq (C : CT) (a0 : Value) (g : G) (n : Nat) (K : Cont) : bellowsref28_First C a0 g n K = abody Try.prog C bellowsref28_First_id [a0] g n K := by kernel_rfl

/- bellows/bellowsref28.begins -/
def bellowsref28_begins (C : CT) (a0 : Value) (g : G) (n : Nat) (K : Cont) : Prop :=
kAgg a0 fun c1 =>
kNew c1 .exact g n fun l1 g1 n1 =>
kLd g1 l1 (0 + 0) fun v4 =>
kBin .int .eql v4 (.int .i64 4) fun v5 =>
kSplit v5 (
kLd g1 l1 (0 + 2) fun v8 =>
kBin .int .eql v8 (.int .i64 0) fun v9 =>
kSplit v9 (
kLd g1 l1 (0 + 3) fun v13 =>
kBin .int .eql v13 (.int .i64 0) fun v14 =>
kSplit v14 (
kLd g1 l1 (0 + 4) fun v18 =>
kBin .int .eql v18 (.int .u64 0) fun v19 =>
aRet K v19 g1 n1) (
aRet K (.bool false) g1 n1)) (
aRet K (.bool false) g1 n1)) (
aRet K (.bool false) g1 n1)

theorem bellowsref28_begins_eq (C : CT) (a0 : Value) (g : G) (n : Nat) (K : Cont) : bellowsref28_begins C a0 g n K = abody Try.prog C bellowsref28_begins_id [a0] g n K := by kernel_rfl

/- bellows/trace.Of -/
def trace_Of (C : CT) (a0 a1 a2 : Value) (g : G) (n : Nat) (K : Cont) : Prop :=
isCell a1 = true ∧ kNew [a1] .exact g n fun l4 g1 n4 =>
isCell a2 = true ∧ kNew [a2] .exact g1 n4 fun l5 g2 n5 =>
C trace_chosen_api_Event_api_Event_id [a0, (.func (.func trace_Of_1_id) #[] #[(ptr l4 0), (ptr l5 0)]), (.func (.func trace_itself_id) #[] #[])] g2 n5 fun v9 g3 n9 =>
aRet K v9 g3 n9

theorem trace_Of_eq (C : CT) (a0 a1 a2 : Value) (g : G) (n : Nat) (K : Cont) : trace_Of C a0 a1 a2 g n K = abody Try.prog C trace_Of_id [a0, a1, a2] g n K := by kernel_rfl

/- bellows/bellowslaw25.Fair -/
def bellowslaw25_Fair_j2 (C : CT) (K : Cont) (t : Env) (g : G) (n : Nat) : Prop :=
kLen (t 0) fun v18 =>
kBin .int .leq v18 (.int .i64 12) fun v19 =>
aRet K v19 g n

def bellowslaw25_Fair_l1 (C : CT) (K : Cont) (I_l1 : ECont) (t : Env) (g : G) (n : Nat) : Prop :=
kLen (t 0) fun v6 =>
kBin .int .lss (t 3) v6 fun v7 =>
kSplit v7 (
kIndexAddr (t 0) (t 3) 2 fun v12 =>
kPtr v12 fun l13 o13 =>
kLd g l13 (o13 + 0) fun v14 =>
kLen v14 fun v15 =>
kBin .int .gtr v15 (.int .i64 30) fun v16 =>
kSplit v16 (
aRet K (.bool false) g n) (
kBin .int .add (t 3) (.int .i64 1) fun v9 =>
I_l1 (puts t [(4, (t 3)), (5, (t 0)), (6, v6), (7, v7), (10, (t 0)), (11, (t 3)), (12, v12), (13, (ptr l13 (o13 + 0))), (14, v14), (15, v15), (16, v16), (8, (t 3)), (9, v9), (3, v9)]) g n)) (
bellowslaw25_Fair_j2 C K (puts t [(4, (t 3)), (5, (t 0)), (6, v6), (7, v7)]) g n)

def bellowslaw25_Fair (C : CT) (a0 : Value) (g : G) (n : Nat) (K : Cont) : Prop :=
lfp (bellowslaw25_Fair_l1 C K) (puts (args0 [a0]) [(2, (.bool false)), (3, (.int .i64 0))]) g n

theorem bellowslaw25_Fair_eq (C : CT) (a0 : Value) (g : G) (n : Nat) (K : Cont) : bellowslaw25_Fair C a0 g n K = abody Try.prog C bellowslaw25_Fair_id [a0] g n K := by kernel_rfl

/- bellows/layout.Words -/
def layout_Words (C : CT) (a0 : Value) (g : G) (n : Nat) (K : Cont) : Prop :=
kAgg a0 fun c1 =>
kNew c1 .exact g n fun l1 g1 n1 =>
kLdN g1 l1 0 9 fun c4 =>
C layout_of_id [(.agg c4.toArray)] g1 n1 fun v5 g2 n5 =>
kNil v5 fun v7 =>
kPtr v7 fun l8 o8 =>
kLd g2 l8 (o8 + 3) fun v9 =>
kUn .not v9 fun v10 =>
kSplit v10 (
aRet K (.int .i64 0) g2 n5) (
kNil v5 fun v12 =>
kPtr v12 fun l13 o13 =>
kLd g2 l13 (o13 + 6) fun v14 =>
kBin .int .mul v14 (.int .i64 8) fun v15 =>
aRet K v15 g2 n5)

theorem layout_Words_eq (C : CT) (a0 : Value) (g : G) (n : Nat) (K : Cont) : layout_Words C a0 g n K = abody Try.prog C layout_Words_id [a0] g n K := by kernel_rfl

/- slices.Concat[[]bellows/api.Tx,bellows/api.Tx] -/
def slices_Concat_api_Tx_api_Tx_l3 (C : CT) (K : Cont) (I_l3 : ECont) (t : Env) (g : G) (n : Nat) : Prop :=
kBin .int .lss (t 27) (t 26) fun v28 =>
kSplit v28 (
kIndexAddr (t 25) (t 27) 1 fun v29 =>
kPtr v29 fun l30 o30 =>
kLd g l30 o30 fun v30 =>
kAppend (t 6) v30 2 32 g n fun v33 g2 n33 =>
kBin .int .add (t 27) (.int .i64 1) fun v34 =>
I_l3 (puts t [(28, v28), (29, v29), (30, v30), (8, v30), (31, (t 6)), (32, v30), (33, v33), (6, v33), (34, v34), (27, v34)]) g2 n33) (
aRet K (t 6) g n)

def slices_Concat_api_Tx_api_Tx_j2 (C : CT) (K : Cont) (t : Env) (g : G) (n : Nat) : Prop :=
C slices_Grow_api_Tx_api_Tx_id [(.slice none 0 0), (t 3)] g n fun v24 g1 n24 =>
kLen (t 0) fun v26 =>
lfp (slices_Concat_api_Tx_api_Tx_l3 C K) (puts t [(23, (t 3)), (24, v24), (6, v24), (25, (t 0)), (26, v26), (27, (.int .i64 0))]) g1 n24

def slices_Concat_api_Tx_api_Tx_l1 (C : CT) (K : Cont) (I_l1 : ECont) (t : Env) (g : G) (n : Nat) : Prop :=
kBin .int .lss (t 11) (t 10) fun v12 =>
kSplit v12 (
kIndexAddr (t 9) (t 11) 1 fun v13 =>
kPtr v13 fun l14 o14 =>
kLd g l14 o14 fun v14 =>
kLen v14 fun v17 =>
kBin .int .add (t 3) v17 fun v18 =>
kBin .int .lss v18 (.int .i64 0) fun v20 =>
kSplit v20 (
False) (
kBin .int .add (t 11) (.int .i64 1) fun v22 =>
I_l1 (puts t [(12, v12), (13, v13), (14, v14), (5, v14), (15, (t 3)), (16, v14), (17, v17), (18, v18), (3, v18), (19, v18), (20, v20), (22, v22), (11, v22)]) g n)) (
slices_Concat_api_Tx_api_Tx_j2 C K (puts t [(12, v12)]) g n)

def slices_Concat_api_Tx_api_Tx (C : CT) (a0 : Value) (g : G) (n : Nat) (K : Cont) : Prop :=
kLen a0 fun v10 =>
lfp (slices_Concat_api_Tx_api_Tx_l1 C K) (puts (args0 [a0]) [(2, (.slice none 0 0)), (3, (.int .i64 0)), (9, a0), (10, v10), (11, (.int .i64 0))]) g n

theorem slices_Concat_api_Tx_api_Tx_eq (C : CT) (a0 : Value) (g : G) (n : Nat) (K : Cont) : slices_Concat_api_Tx_api_Tx C a0 g n K = abody Try.prog C slices_Concat_api_Tx_api_Tx_id [a0] g n K := by kernel_rfl

/- bellows/client.Good -/
def client_Good_j2 (C : CT) (K : Cont) (t : Env) (g : G) (n : Nat) : Prop :=
kPtr (t 1) fun l16 o16 =>
kLd g l16 (o16 + 0) fun v17 =>
kLen v17 fun v18 =>
kBin .int .leq v18 (.int .i64 16) fun v19 =>
aRet K v19 g n

def client_Good_l1 (C : CT) (K : Cont) (I_l1 : ECont) (t : Env) (g : G) (n : Nat) : Prop :=
kBin .int .lss (t 8) (t 7) fun v9 =>
kSplit v9 (
kIndexAddr (t 6) (t 8) 3 fun v10 =>
kPtr v10 fun l11 o11 =>
kLdN g l11 o11 3 fun c11 =>
kNew [(.int .i64 0), (.int .i64 0), (.int .u64 0)] .exact g n fun l4 g2 n4 =>
kAgg (.agg c11.toArray) fun cg3 =>
cg3.length = 3 ∧ kStN g2 l4 0 cg3 fun g3 =>
kLdN g3 l4 0 3 fun c12 =>
C client_good_id [(.agg c12.toArray)] g3 n4 fun v13 g4 n13 =>
kUn .not v13 fun v14 =>
kSplit v14 (
aRet K (.bool false) g4 n13) (
kBin .int .add (t 8) (.int .i64 1) fun v15 =>
I_l1 (puts t [(9, v9), (10, v10), (11, (.agg c11.toArray)), (4, (ptr l4 0)), (12, (.agg c12.toArray)), (13, v13), (14, v14), (15, v15), (8, v15)]) g4 n13)) (
client_Good_j2 C K (puts t [(9, v9)]) g n)

def client_Good (C : CT) (a0 : Value) (g : G) (n : Nat) (K : Cont) : Prop :=
kAgg a0 fun c1 =>
kNew c1 .exact g n fun l1 g1 n1 =>
kLd g1 l1 (0 + 0) fun v6 =>
kLen v6 fun v7 =>
lfp (client_Good_l1 C K) (puts (args0 [a0]) [(1, (ptr l1 0)), (2, (.bool false)), (5, (ptr l1 (0 + 0))), (6, v6), (7, v7), (8, (.int .i64 0))]) g1 n1

theorem client_Good_eq (C : CT) (a0 : Value) (g : G) (n : Nat) (K : Cont) : client_Good C a0 g n K = abody Try.prog C client_Good_id [a0] g n K := by kernel_rfl

/- bellows/serial.told -/
def serial_told_l1 (C : CT) (K : Cont) (I_l1 : ECont) (t : Env) (g : G) (n : Nat) : Prop :=
kBin .int .lss (t 13) (t 12) fun v14 =>
kSplit v14 (
kIndexAddr (t 11) (t 13) 2 fun v15 =>
kPtr v15 fun l16 o16 =>
kLdN g l16 o16 2 fun c16 =>
kNew [(.int .i64 0), (.int .i64 0)] .exact g n fun l7 g4 n7 =>
kAgg (.agg c16.toArray) fun cg5 =>
cg5.length = 2 ∧ kStN g4 l7 0 cg5 fun g5 =>
kIndexArr (ptr l7 0) (.int .i64 0) 2 1 fun v18 =>
kPtr v18 fun l19 o19 =>
kLd g5 l19 o19 fun v19 =>
kLookup .i64 (t 5) v19 (.slice none 0 0) false g5 fun v20 =>
kBin .slice .eql v20 (.slice none 0 0) fun v21 =>
kSplit v21 (
kIndexArr (ptr l7 0) (.int .i64 0) 2 1 fun v23 =>
kPtr v23 fun l24 o24 =>
kLd g5 l24 o24 fun v24 =>
kPtr (t 2) fun l25 o25 =>
kLdN g5 l25 o25 9 fun c25 =>
kIndexArr (ptr l7 0) (.int .i64 0) 2 1 fun v27 =>
kPtr v27 fun l28 o28 =>
kLd g5 l28 o28 fun v28 =>
C serial_Told_id [(.agg c25.toArray), (t 1), v28] g5 n7 fun v29 g6 n29 =>
(kPtr v23 fun l _ => g6 l = g5 l) ∧ kMapSet .i64 (t 5) v24 v29 g6 fun g7 =>
kBin .int .add (t 13) (.int .i64 1) fun v30 =>
I_l1 (puts t [(14, v14), (15, v15), (16, (.agg c16.toArray)), (7, (ptr l7 0)), (17, (t 5)), (18, v18), (19, v19), (20, v20), (21, v21), (22, (t 5)), (23, v23), (24, v24), (25, (.agg c25.toArray)), (26, (t 1)), (27, v27), (28, v28), (29, v29), (30, v30), (13, v30)]) g7 n29) (
kBin .int .add (t 13) (.int .i64 1) fun v30 =>
I_l1 (puts t [(14, v14), (15, v15), (16, (.agg c16.toArray)), (7, (ptr l7 0)), (17, (t 5)), (18, v18), (19, v19), (20, v20), (21, v21), (30, v30), (13, v30)]) g5 n7)) (
aRet K (t 5) g n)

def serial_told (C : CT) (a0 a1 : Value) (g : G) (n : Nat) (K : Cont) : Prop :=
kAgg a0 fun c2 =>
kNew c2 .exact g n fun l2 g1 n2 =>
kNewB (.map []) g1 n2 fun l8 g2 n8 =>
kLdN g2 l2 0 9 fun c9 =>
C serial_Begins_id [(.agg c9.toArray), a1] g2 n8 fun v11 g3 n11 =>
kLen v11 fun v12 =>
lfp (serial_told_l1 C K) (puts (args0 [a0, a1]) [(2, (ptr l2 0)), (4, (.map none)), (8, (.map (some l8))), (5, (.map (some l8))), (9, (.agg c9.toArray)), (10, a1), (11, v11), (12, v12), (13, (.int .i64 0))]) g3 n11

theorem serial_told_eq (C : CT) (a0 a1 : Value) (g : G) (n : Nat) (K : Cont) : serial_told C a0 a1 g n K = abody Try.prog C serial_told_id [a0, a1] g n K := by kernel_rfl

/- bellows/model.Run -/
def model_Run_j2 (C : CT) (K : Cont) (t : Env) (g : G) (n : Nat) : Prop :=
kNil (t 9) fun v60 =>
kPtr v60 fun l61 o61 =>
kLd g l61 (o61 + 4) fun v62 =>
aRet K (.tuple #[(t 6), v62, (.int .i64 0)]) g n

def model_Run_l1 (C : CT) (K : Cont) (I_l1 : ECont) (t : Env) (g : G) (n : Nat) : Prop :=
kNext (t 48) g fun v49 g9 =>
kExtract v49 0 fun v50 =>
kSplit v50 (
kEntry (t 48) g9 fun v51 =>
kExtract v51 0 fun v52 =>
kExtract v51 1 fun v53 =>
kIndexAddr (t 6) v52 1 fun v57 =>
kPtr v57 fun lg10 og10 =>
kSt g9 lg10 og10 v53 fun g10 =>
I_l1 (puts t [(49, v49), (50, v50), (51, v51), (52, v52), (53, v53), (11, v52), (12, v53), (54, (t 6)), (55, v52), (56, v53), (57, v57)]) g10 n) (
model_Run_j2 C K (puts t [(49, v49), (50, v50)]) g9 n)

def model_Run (C : CT) (a0 a1 a2 : Value) (g : G) (n : Nat) (K : Cont) : Prop :=
kAgg a2 fun c5 =>
kNew c5 .exact g n fun l5 g1 n5 =>
kLdN g1 l5 0 2 fun c14 =>
C client_Good_id [(.agg c14.toArray)] g1 n5 fun v15 g2 n15 =>
kUn .not v15 fun v16 =>
kSplit v16 (
aRet K (.tuple #[(.slice none 0 0), (.slice none 0 0), (.int .i64 11)]) g2 n15) (
kBin .int .lss a1 (.int .i64 0) fun v19 =>
kSplit v19 (
aRet K (.tuple #[(.slice none 0 0), (.slice none 0 0), (.int .i64 1)]) g2 n15) (
kBin .int .gtr a1 (.int .i64 1000) fun v22 =>
kSplit v22 (
aRet K (.tuple #[(.slice none 0 0), (.slice none 0 0), (.int .i64 1)]) g2 n15) (
kLen a0 fun v26 =>
kBin .int .gtr v26 (.int .i64 1000) fun v27 =>
kSplit v27 (
aRet K (.tuple #[(.slice none 0 0), (.slice none 0 0), (.int .i64 1)]) g2 n15) (
kNewB (.map []) g2 n15 fun l31 g3 n31 =>
kFill [(.slice none 0 0), (.int .i64 0), (.map none), (.int .i64 0), (.slice none 0 0)] [(0, none, a0), (1, none, a1), (2, none, (.map (some l31)))] fun c32 =>
kAgg (.agg c32.toArray) fun c33 =>
kNew c33 .exact g3 n31 fun l33 g4 n33 =>
kLdN g4 l5 0 2 fun c35 =>
C model_world_end_id [(ptr l33 0), (.agg c35.toArray)] g4 n33 fun v36 g5 n36 =>
C model_world_tell_id [(ptr l33 0), v36] g5 n36 fun v39 g6 n39 =>
C slices_Clone_uint64_uint64_id [a0] g6 n39 fun v41 g7 n41 =>
kBin .int .eql v36 (.int .u64 101) fun v43 =>
kSplit v43 (
kLd g7 l33 (0 + 2) fun v47 =>
kRange v47 g7 n41 fun l48 g8 n48 =>
lfp (model_Run_l1 C K) (puts (args0 [a0, a1, a2]) [(5, (ptr l5 0)), (6, (.slice none 0 0)), (7, (.slice none 0 0)), (8, (.int .i64 0)), (14, (.agg c14.toArray)), (15, v15), (16, v16), (13, v16), (18, a1), (19, v19), (20, (.bool false)), (21, a1), (22, v22), (23, v22), (24, (.bool false)), (25, a0), (26, v26), (27, v27), (28, v27), (17, v27), (29, a0), (30, a1), (31, (.map (some l31))), (32, (.agg c32.toArray)), (33, (ptr l33 0)), (9, (ptr l33 0)), (34, (ptr l33 0)), (35, (.agg c35.toArray)), (36, v36), (10, v36), (37, (ptr l33 0)), (38, v36), (39, v39), (40, a0), (41, v41), (6, v41), (42, v36), (43, v43), (44, (ptr l33 0)), (45, (ptr l33 0)), (46, (ptr l33 (0 + 2))), (47, v47), (48, (ptr l48 0))]) g8 n48) (
model_Run_j2 C K (puts (args0 [a0, a1, a2]) [(5, (ptr l5 0)), (6, (.slice none 0 0)), (7, (.slice none 0 0)), (8, (.int .i64 0)), (14, (.agg c14.toArray)), (15, v15), (16, v16), (13, v16), (18, a1), (19, v19), (20, (.bool false)), (21, a1), (22, v22), (23, v22), (24, (.bool false)), (25, a0), (26, v26), (27, v27), (28, v27), (17, v27), (29, a0), (30, a1), (31, (.map (some l31))), (32, (.agg c32.toArray)), (33, (ptr l33 0)), (9, (ptr l33 0)), (34, (ptr l33 0)), (35, (.agg c35.toArray)), (36, v36), (10, v36), (37, (ptr l33 0)), (38, v36), (39, v39), (40, a0), (41, v41), (6, v41), (42, v36), (43, v43)]) g7 n41)))))

theorem model_Run_eq (C : CT) (a0 a1 a2 : Value) (g : G) (n : Nat) (K : Cont) : model_Run C a0 a1 a2 g n K = abody Try.prog C model_Run_id [a0, a1, a2] g n K := by kernel_rfl

/- bellows/layout.Room -/
def layout_Room (C : CT) (a0 : Value) (g : G) (n : Nat) (K : Cont) : Prop :=
kAgg a0 fun c1 =>
kNew c1 .exact g n fun l1 g1 n1 =>
kLdN g1 l1 0 9 fun c4 =>
C layout_of_id [(.agg c4.toArray)] g1 n1 fun v5 g2 n5 =>
kNil v5 fun v7 =>
kPtr v7 fun l8 o8 =>
kLd g2 l8 (o8 + 3) fun v9 =>
kUn .not v9 fun v10 =>
kSplit v10 (
aRet K (.int .i64 0) g2 n5) (
kNil v5 fun v12 =>
kPtr v12 fun l13 o13 =>
kLd g2 l13 (o13 + 7) fun v14 =>
aRet K v14 g2 n5)

theorem layout_Room_eq (C : CT) (a0 : Value) (g : G) (n : Nat) (K : Cont) : layout_Room C a0 g n K = abody Try.prog C layout_Room_id [a0] g n K := by kernel_rfl

/- slices.Equal[[]uint64,uint64] -/
def slices_Equal_uint64_uint64_l1 (C : CT) (K : Cont) (I_l1 : ECont) (t : Env) (g : G) (n : Nat) : Prop :=
kBin .int .lss (t 13) (t 12) fun v14 =>
kSplit v14 (
kIndexAddr (t 0) (t 13) 1 fun v18 =>
kPtr v18 fun l19 o19 =>
kLd g l19 o19 fun v19 =>
kIndexAddr (t 1) (t 13) 1 fun v22 =>
kPtr v22 fun l23 o23 =>
kLd g l23 o23 fun v23 =>
kBin .int .neq v19 v23 fun v24 =>
kSplit v24 (
aRet K (.bool false) g n) (
kBin .int .add (t 13) (.int .i64 1) fun v25 =>
I_l1 (puts t [(14, v14), (15, (t 13)), (5, (t 13)), (16, (t 0)), (17, (t 13)), (18, v18), (19, v19), (20, (t 1)), (21, (t 13)), (22, v22), (23, v23), (24, v24), (25, v25), (13, v25)]) g n)) (
aRet K (.bool true) g n)

def slices_Equal_uint64_uint64 (C : CT) (a0 a1 : Value) (g : G) (n : Nat) (K : Cont) : Prop :=
kLen a0 fun v7 =>
kLen a1 fun v9 =>
kBin .int .neq v7 v9 fun v10 =>
kSplit v10 (
aRet K (.bool false) g n) (
kLen a0 fun v12 =>
lfp (slices_Equal_uint64_uint64_l1 C K) (puts (args0 [a0, a1]) [(4, (.bool false)), (6, a0), (7, v7), (8, a1), (9, v9), (10, v10), (11, a0), (12, v12), (13, (.int .i64 0))]) g n)

theorem slices_Equal_uint64_uint64_eq (C : CT) (a0 a1 : Value) (g : G) (n : Nat) (K : Cont) : slices_Equal_uint64_uint64 C a0 a1 g n K = abody Try.prog C slices_Equal_uint64_uint64_id [a0, a1] g n K := by kernel_rfl

/- bellows/bellowslaw25.Copied -/
def bellowslaw25_Copied_l1 (C : CT) (K : Cont) (I_l1 : ECont) (t : Env) (g : G) (n : Nat) : Prop :=
kLen (t 0) fun v7 =>
kBin .int .lss (t 4) v7 fun v8 =>
kSplit v8 (
kIndexAddr (t 0) (t 4) 2 fun v15 =>
kPtr v15 fun l16 o16 =>
kLd g l16 (o16 + 0) fun v17 =>
kIndexAddr (t 0) (t 4) 2 fun v21 =>
kPtr v21 fun l22 o22 =>
kLd g l22 (o22 + 1) fun v23 =>
kFill (reps 0 [(.int .i64 0), (.int .i64 0), (.int .u64 0)]) [] fun c12 =>
kNew c12 .exact g n fun l12 g1 n12 =>
(kPtr (ptr l16 (o16 + 0)) fun l _ => g1 l = g l) ∧ (kPtr (ptr l22 (o22 + 1)) fun l _ => g1 l = g l) ∧ kAppend (.slice (some ⟨l12, 0, none⟩) 0 0) v17 3 24 g1 n12 fun v18 g2 n18 =>
(kPtr (ptr l22 (o22 + 1)) fun l _ => g2 l = g1 l) ∧ kFill [(.slice none 0 0), (.bool false)] [(0, none, v18), (1, none, v23)] fun c24 =>
kFill (reps 1 [(.slice none 0 0), (.bool false)]) [(0, (some 2), (.agg c24.toArray))] fun c25 =>
kNew c25 .exact g2 n18 fun l25 g3 n25 =>
kAppend (t 3) (.slice (some ⟨l25, 0, none⟩) 1 1) 2 32 g3 n25 fun v26 g4 n26 =>
kBin .int .add (t 4) (.int .i64 1) fun v10 =>
I_l1 (puts t [(5, (t 4)), (6, (t 0)), (7, v7), (8, v8), (11, (t 3)), (13, (t 0)), (14, (t 4)), (15, v15), (16, (ptr l16 (o16 + 0))), (17, v17), (19, (t 0)), (20, (t 4)), (21, v21), (22, (ptr l22 (o22 + 1))), (23, v23), (12, (.slice (some ⟨l12, 0, none⟩) 0 0)), (18, v18), (24, (.agg c24.toArray)), (25, (.slice (some ⟨l25, 0, none⟩) 1 1)), (26, v26), (3, v26), (9, (t 4)), (10, v10), (4, v10)]) g4 n26) (
aRet K (t 3) g n)

def bellowslaw25_Copied (C : CT) (a0 : Value) (g : G) (n : Nat) (K : Cont) : Prop :=
lfp (bellowslaw25_Copied_l1 C K) (puts (args0 [a0]) [(2, (.slice none 0 0)), (3, (.slice none 0 0)), (4, (.int .i64 0))]) g n

theorem bellowslaw25_Copied_eq (C : CT) (a0 : Value) (g : G) (n : Nat) (K : Cont) : bellowslaw25_Copied C a0 g n K = abody Try.prog C bellowslaw25_Copied_id [a0] g n K := by kernel_rfl

/- bellows/bellowsref22.Words -/
def bellowsref22_Words (C : CT) (a0 : Value) (g : G) (n : Nat) (K : Cont) : Prop :=
kAgg a0 fun c1 =>
kNew c1 .exact g n fun l1 g1 n1 =>
kLdN g1 l1 0 9 fun c3 =>
C bellowsref22_Good_id [(.agg c3.toArray)] g1 n1 fun v4 g2 n4 =>
kUn .not v4 fun v5 =>
kSplit v5 (
aRet K (.int .i64 0) g2 n4) (
kLd g2 l1 (0 + 8) fun v7 =>
kBin .int .mul (.int .i64 8) v7 fun v8 =>
aRet K v8 g2 n4)

theorem bellowsref22_Words_eq (C : CT) (a0 : Value) (g : G) (n : Nat) (K : Cont) : bellowsref22_Words C a0 g n K = abody Try.prog C bellowsref22_Words_id [a0] g n K := by kernel_rfl

/- bellows/bellowsref25.Good -/
def bellowsref25_Good_l1 (C : CT) (K : Cont) (I_l1 : ECont) (t : Env) (g : G) (n : Nat) : Prop :=
kPtr (t 1) fun l10 o10 =>
kLd g l10 (o10 + 0) fun v11 =>
kLen v11 fun v12 =>
kBin .int .lss (t 3) v12 fun v13 =>
kSplit v13 (
kPtr (t 1) fun l16 o16 =>
kLd g l16 (o16 + 0) fun v17 =>
kIndexAddr v17 (t 3) 3 fun v19 =>
kPtr v19 fun l20 o20 =>
kLdN g l20 o20 3 fun c20 =>
kNew [(.int .i64 0), (.int .i64 0), (.int .u64 0)] .exact g n fun l4 g2 n4 =>
kAgg (.agg c20.toArray) fun cg3 =>
cg3.length = 3 ∧ kStN g2 l4 0 cg3 fun g3 =>
kLd g3 l4 (0 + 0) fun v22 =>
kBin .int .lss v22 (.int .i64 1) fun v23 =>
kSplit v23 (
aRet K (.bool false) g3 n4) (
kLd g3 l4 (0 + 0) fun v26 =>
kBin .int .gtr v26 (.int .i64 4) fun v27 =>
kSplit v27 (
aRet K (.bool false) g3 n4) (
kLd g3 l4 (0 + 2) fun v31 =>
kBin .int .geq v31 (.int .u64 2147483648) fun v32 =>
kSplit v32 (
aRet K (.bool false) g3 n4) (
kLd g3 l4 (0 + 0) fun v36 =>
kBin .int .eql v36 (.int .i64 1) fun v37 =>
kSplit v37 (
kLd g3 l4 (0 + 2) fun v40 =>
kBin .int .neq v40 (.int .u64 0) fun v41 =>
kSplit v41 (
aRet K (.bool false) g3 n4) (
kLd g3 l4 (0 + 0) fun v46 =>
kBin .int .eql v46 (.int .i64 4) fun v47 =>
kSplit v47 (
kLd g3 l4 (0 + 2) fun v50 =>
kBin .int .eql v50 (.int .u64 0) fun v51 =>
kSplit v51 (
aRet K (.bool false) g3 n4) (
kBin .int .add (t 3) (.int .i64 1) fun v15 =>
I_l1 (puts t [(9, (t 3)), (10, (ptr l10 (o10 + 0))), (11, v11), (12, v12), (13, v13), (16, (ptr l16 (o16 + 0))), (17, v17), (18, (t 3)), (19, v19), (20, (.agg c20.toArray)), (4, (ptr l4 0)), (21, (ptr l4 (0 + 0))), (22, v22), (23, v23), (24, (.bool false)), (25, (ptr l4 (0 + 0))), (26, v26), (27, v27), (28, v27), (29, (.bool false)), (30, (ptr l4 (0 + 2))), (31, v31), (32, v32), (33, v32), (34, (.bool false)), (35, (ptr l4 (0 + 0))), (36, v36), (37, v37), (38, (.bool true)), (39, (ptr l4 (0 + 2))), (40, v40), (41, v41), (42, v41), (43, v41), (44, (.bool false)), (45, (ptr l4 (0 + 0))), (46, v46), (47, v47), (48, (.bool true)), (49, (ptr l4 (0 + 2))), (50, v50), (51, v51), (52, v51), (53, v51), (14, (t 3)), (15, v15), (3, v15)]) g3 n4)) (
kBin .int .add (t 3) (.int .i64 1) fun v15 =>
I_l1 (puts t [(9, (t 3)), (10, (ptr l10 (o10 + 0))), (11, v11), (12, v12), (13, v13), (16, (ptr l16 (o16 + 0))), (17, v17), (18, (t 3)), (19, v19), (20, (.agg c20.toArray)), (4, (ptr l4 0)), (21, (ptr l4 (0 + 0))), (22, v22), (23, v23), (24, (.bool false)), (25, (ptr l4 (0 + 0))), (26, v26), (27, v27), (28, v27), (29, (.bool false)), (30, (ptr l4 (0 + 2))), (31, v31), (32, v32), (33, v32), (34, (.bool false)), (35, (ptr l4 (0 + 0))), (36, v36), (37, v37), (38, (.bool true)), (39, (ptr l4 (0 + 2))), (40, v40), (41, v41), (42, v41), (43, v41), (44, (.bool false)), (45, (ptr l4 (0 + 0))), (46, v46), (47, v47), (48, (.bool false)), (49, undef), (50, undef), (51, undef), (52, (.bool false)), (53, (.bool false)), (14, (t 3)), (15, v15), (3, v15)]) g3 n4))) (
kLd g3 l4 (0 + 0) fun v46 =>
kBin .int .eql v46 (.int .i64 4) fun v47 =>
kSplit v47 (
kLd g3 l4 (0 + 2) fun v50 =>
kBin .int .eql v50 (.int .u64 0) fun v51 =>
kSplit v51 (
aRet K (.bool false) g3 n4) (
kBin .int .add (t 3) (.int .i64 1) fun v15 =>
I_l1 (puts t [(9, (t 3)), (10, (ptr l10 (o10 + 0))), (11, v11), (12, v12), (13, v13), (16, (ptr l16 (o16 + 0))), (17, v17), (18, (t 3)), (19, v19), (20, (.agg c20.toArray)), (4, (ptr l4 0)), (21, (ptr l4 (0 + 0))), (22, v22), (23, v23), (24, (.bool false)), (25, (ptr l4 (0 + 0))), (26, v26), (27, v27), (28, v27), (29, (.bool false)), (30, (ptr l4 (0 + 2))), (31, v31), (32, v32), (33, v32), (34, (.bool false)), (35, (ptr l4 (0 + 0))), (36, v36), (37, v37), (38, (.bool false)), (39, undef), (40, undef), (41, undef), (42, (.bool false)), (43, (.bool false)), (44, (.bool false)), (45, (ptr l4 (0 + 0))), (46, v46), (47, v47), (48, (.bool true)), (49, (ptr l4 (0 + 2))), (50, v50), (51, v51), (52, v51), (53, v51), (14, (t 3)), (15, v15), (3, v15)]) g3 n4)) (
kBin .int .add (t 3) (.int .i64 1) fun v15 =>
I_l1 (puts t [(9, (t 3)), (10, (ptr l10 (o10 + 0))), (11, v11), (12, v12), (13, v13), (16, (ptr l16 (o16 + 0))), (17, v17), (18, (t 3)), (19, v19), (20, (.agg c20.toArray)), (4, (ptr l4 0)), (21, (ptr l4 (0 + 0))), (22, v22), (23, v23), (24, (.bool false)), (25, (ptr l4 (0 + 0))), (26, v26), (27, v27), (28, v27), (29, (.bool false)), (30, (ptr l4 (0 + 2))), (31, v31), (32, v32), (33, v32), (34, (.bool false)), (35, (ptr l4 (0 + 0))), (36, v36), (37, v37), (38, (.bool false)), (39, undef), (40, undef), (41, undef), (42, (.bool false)), (43, (.bool false)), (44, (.bool false)), (45, (ptr l4 (0 + 0))), (46, v46), (47, v47), (48, (.bool false)), (49, undef), (50, undef), (51, undef), (52, (.bool false)), (53, (.bool false)), (14, (t 3)), (15, v15), (3, v15)]) g3 n4)))))) (
aRet K (.bool true) g n)

def bellowsref25_Good (C : CT) (a0 : Value) (g : G) (n : Nat) (K : Cont) : Prop :=
kAgg a0 fun c1 =>
kNew c1 .exact g n fun l1 g1 n1 =>
kLd g1 l1 (0 + 0) fun v6 =>
kLen v6 fun v7 =>
kBin .int .gtr v7 (.int .i64 16) fun v8 =>
kSplit v8 (
aRet K (.bool false) g1 n1) (
lfp (bellowsref25_Good_l1 C K) (puts (args0 [a0]) [(1, (ptr l1 0)), (2, (.bool false)), (5, (ptr l1 (0 + 0))), (6, v6), (7, v7), (8, v8), (3, (.int .i64 0))]) g1 n1)

theorem bellowsref25_Good_eq (C : CT) (a0 : Value) (g : G) (n : Nat) (K : Cont) : bellowsref25_Good C a0 g n K = abody Try.prog C bellowsref25_Good_id [a0] g n K := by kernel_rfl

/- bellows/bellowsref26.Run -/
def bellowsref26_Run_j2 (C : CT) (K : Cont) (I_l1 : ECont) (t : Env) (g : G) (n : Nat) : Prop :=
kBin .int .add (t 9) (.int .i64 1) fun v37 =>
I_l1 (puts t [(36, (t 9)), (37, v37), (9, v37)]) g n

def bellowsref26_Run_j3 (C : CT) (K : Cont) (t : Env) (g : G) (n : Nat) : Prop :=
kPtr (t 5) fun l143 o143 =>
kLd g l143 (o143 + 1) fun v144 =>
kSplit v144 (
kPtr (t 7) fun l145 o145 =>
kLdN g l145 o145 3 fun c145 =>
C bellowsref26_Ran_end_id [(.agg c145.toArray), (t 0), (.int .u64 104)] g n fun v147 g46 n147 =>
kPtr (t 6) fun lg47 og47 =>
kAgg v147 fun cg47 =>
cg47.length = 3 ∧ kStN g46 lg47 og47 cg47 fun g47 =>
kPtr (t 6) fun lr0 or0 =>
kLdN g47 lr0 or0 3 fun r0 =>
aRet K (.agg r0.toArray) g47 n147) (
kPtr (t 7) fun l148 o148 =>
kLdN g l148 o148 3 fun c148 =>
C bellowsref26_Ran_end_id [(.agg c148.toArray), (t 0), (.int .u64 101)] g n fun v150 g48 n150 =>
kPtr (t 6) fun lg49 og49 =>
kAgg v150 fun cg49 =>
cg49.length = 3 ∧ kStN g48 lg49 og49 cg49 fun g49 =>
kPtr (t 6) fun lr0 or0 =>
kLdN g49 lr0 or0 3 fun r0 =>
aRet K (.agg r0.toArray) g49 n150)

def bellowsref26_Run_l1 (C : CT) (K : Cont) (I_l1 : ECont) (t : Env) (g : G) (n : Nat) : Prop :=
kPtr (t 5) fun l32 o32 =>
kLd g l32 (o32 + 0) fun v33 =>
kLen v33 fun v34 =>
kBin .int .lss (t 9) v34 fun v35 =>
kSplit v35 (
kPtr (t 5) fun l38 o38 =>
kLd g l38 (o38 + 0) fun v39 =>
kIndexAddr v39 (t 9) 3 fun v41 =>
kPtr v41 fun l42 o42 =>
kLdN g l42 o42 3 fun c42 =>
kNew [(.int .i64 0), (.int .i64 0), (.int .u64 0)] .exact g n fun l10 g12 n10 =>
kAgg (.agg c42.toArray) fun cg13 =>
cg13.length = 3 ∧ kStN g12 l10 0 cg13 fun g13 =>
kLd g13 l10 (0 + 1) fun v44 =>
kBin .int .lss v44 (.int .i64 0) fun v45 =>
kSplit v45 (
kPtr (t 7) fun l53 o53 =>
kLdN g13 l53 o53 3 fun c53 =>
C bellowsref26_Ran_end_id [(.agg c53.toArray), (t 0), (.int .u64 103)] g13 n10 fun v55 g14 n55 =>
kPtr (t 6) fun lg15 og15 =>
kAgg v55 fun cg15 =>
cg15.length = 3 ∧ kStN g14 lg15 og15 cg15 fun g15 =>
kPtr (t 6) fun lr0 or0 =>
kLdN g15 lr0 or0 3 fun r0 =>
aRet K (.agg r0.toArray) g15 n55) (
kLd g13 l10 (0 + 1) fun v48 =>
kLen (t 0) fun v50 =>
kBin .int .geq v48 v50 fun v51 =>
kSplit v51 (
kPtr (t 7) fun l53 o53 =>
kLdN g13 l53 o53 3 fun c53 =>
C bellowsref26_Ran_end_id [(.agg c53.toArray), (t 0), (.int .u64 103)] g13 n10 fun v55 g16 n55 =>
kPtr (t 6) fun lg17 og17 =>
kAgg v55 fun cg17 =>
cg17.length = 3 ∧ kStN g16 lg17 og17 cg17 fun g17 =>
kPtr (t 6) fun lr0 or0 =>
kLdN g17 lr0 or0 3 fun r0 =>
aRet K (.agg r0.toArray) g17 n55) (
kLd g13 l10 (0 + 0) fun v57 =>
kBin .int .eql v57 (.int .i64 1) fun v58 =>
kSplit v58 (
kPtr (t 7) fun l59 o59 =>
kLd g13 l59 (o59 + 1) fun v60 =>
kPtr (t 7) fun l61 o61 =>
kLd g13 l61 (o61 + 0) fun v62 =>
kLd g13 l10 (0 + 1) fun v64 =>
kIndexAddr v62 v64 1 fun v65 =>
kPtr v65 fun l66 o66 =>
kLd g13 l66 o66 fun v66 =>
kFill (reps 1 [(.int .u64 0)]) [(0, none, v66)] fun c67 =>
kNew c67 .exact g13 n10 fun l67 g18 n67 =>
(kPtr (ptr l59 (o59 + 1)) fun l _ => g18 l = g13 l) ∧ kAppend v60 (.slice (some ⟨l67, 0, none⟩) 1 1) 1 8 g18 n67 fun v68 g19 n68 =>
kPtr (t 7) fun l69 o69 =>
kSt g19 l69 (o69 + 1) v68 fun g20 =>
bellowsref26_Run_j2 C K I_l1 (puts t [(31, (t 9)), (32, (ptr l32 (o32 + 0))), (33, v33), (34, v34), (35, v35), (38, (ptr l38 (o38 + 0))), (39, v39), (40, (t 9)), (41, v41), (42, (.agg c42.toArray)), (10, (ptr l10 0)), (43, (ptr l10 (0 + 1))), (44, v44), (45, v45), (46, (.bool false)), (47, (ptr l10 (0 + 1))), (48, v48), (49, (t 0)), (50, v50), (51, v51), (52, v51), (56, (ptr l10 (0 + 0))), (57, v57), (58, v58), (59, (ptr l59 (o59 + 1))), (60, v60), (61, (ptr l61 (o61 + 0))), (62, v62), (63, (ptr l10 (0 + 1))), (64, v64), (65, v65), (66, v66), (67, (.slice (some ⟨l67, 0, none⟩) 1 1)), (68, v68), (69, (ptr l69 (o69 + 1)))]) g20 n68) (
kLd g13 l10 (0 + 0) fun v71 =>
kBin .int .eql v71 (.int .i64 4) fun v72 =>
kSplit v72 (
kPtr (t 7) fun l74 o74 =>
kLd g13 l74 (o74 + 0) fun v75 =>
kLd g13 l10 (0 + 1) fun v77 =>
kIndexAddr v75 v77 1 fun v78 =>
kPtr v78 fun l79 o79 =>
kLd g13 l79 o79 fun v79 =>
kBin .int .neq v79 (.int .u64 0) fun v80 =>
kSplit v80 (
kPtr (t 7) fun l82 o82 =>
kLd g13 l82 (o82 + 1) fun v83 =>
kFill (reps 1 [(.int .u64 0)]) [(0, none, (.int .u64 0))] fun c84 =>
kNew c84 .exact g13 n10 fun l84 g21 n84 =>
kAppend v83 (.slice (some ⟨l84, 0, none⟩) 1 1) 1 8 g21 n84 fun v85 g22 n85 =>
kPtr (t 7) fun l86 o86 =>
kSt g22 l86 (o86 + 1) v85 fun g23 =>
bellowsref26_Run_j2 C K I_l1 (puts t [(31, (t 9)), (32, (ptr l32 (o32 + 0))), (33, v33), (34, v34), (35, v35), (38, (ptr l38 (o38 + 0))), (39, v39), (40, (t 9)), (41, v41), (42, (.agg c42.toArray)), (10, (ptr l10 0)), (43, (ptr l10 (0 + 1))), (44, v44), (45, v45), (46, (.bool false)), (47, (ptr l10 (0 + 1))), (48, v48), (49, (t 0)), (50, v50), (51, v51), (52, v51), (56, (ptr l10 (0 + 0))), (57, v57), (58, v58), (70, (ptr l10 (0 + 0))), (71, v71), (72, v72), (73, (.bool true)), (74, (ptr l74 (o74 + 0))), (75, v75), (76, (ptr l10 (0 + 1))), (77, v77), (78, v78), (79, v79), (80, v80), (81, v80), (82, (ptr l82 (o82 + 1))), (83, v83), (84, (.slice (some ⟨l84, 0, none⟩) 1 1)), (85, v85), (86, (ptr l86 (o86 + 1)))]) g23 n85) (
kBin .int .geq (t 8) (t 1) fun v89 =>
kSplit v89 (
kPtr (t 7) fun l90 o90 =>
kLdN g13 l90 o90 3 fun c90 =>
C bellowsref26_Ran_end_id [(.agg c90.toArray), (t 0), (.int .u64 102)] g13 n10 fun v92 g24 n92 =>
kPtr (t 6) fun lg25 og25 =>
kAgg v92 fun cg25 =>
cg25.length = 3 ∧ kStN g24 lg25 og25 cg25 fun g25 =>
kPtr (t 6) fun lr0 or0 =>
kLdN g25 lr0 or0 3 fun r0 =>
aRet K (.agg r0.toArray) g25 n92) (
kBin .int .add (t 8) (.int .i64 1) fun v94 =>
kLd g13 l10 (0 + 0) fun v96 =>
kBin .int .eql v96 (.int .i64 2) fun v98 =>
kSplit v98 (
kPtr (t 7) fun l99 o99 =>
kLd g13 l99 (o99 + 0) fun v100 =>
kLd g13 l10 (0 + 1) fun v102 =>
kLd g13 l10 (0 + 2) fun v104 =>
kIndexAddr v100 v102 1 fun v105 =>
kPtr v105 fun lg26 og26 =>
kSt g13 lg26 og26 v104 fun g26 =>
bellowsref26_Run_j2 C K I_l1 (puts t [(31, (t 9)), (32, (ptr l32 (o32 + 0))), (33, v33), (34, v34), (35, v35), (38, (ptr l38 (o38 + 0))), (39, v39), (40, (t 9)), (41, v41), (42, (.agg c42.toArray)), (10, (ptr l10 0)), (43, (ptr l10 (0 + 1))), (44, v44), (45, v45), (46, (.bool false)), (47, (ptr l10 (0 + 1))), (48, v48), (49, (t 0)), (50, v50), (51, v51), (52, v51), (56, (ptr l10 (0 + 0))), (57, v57), (58, v58), (70, (ptr l10 (0 + 0))), (71, v71), (72, v72), (73, (.bool true)), (74, (ptr l74 (o74 + 0))), (75, v75), (76, (ptr l10 (0 + 1))), (77, v77), (78, v78), (79, v79), (80, v80), (81, v80), (87, (t 8)), (88, (t 1)), (89, v89), (93, (t 8)), (94, v94), (8, v94), (95, (ptr l10 (0 + 0))), (96, v96), (98, v98), (97, v98), (99, (ptr l99 (o99 + 0))), (100, v100), (101, (ptr l10 (0 + 1))), (102, v102), (103, (ptr l10 (0 + 2))), (104, v104), (105, v105)]) g26 n10) (
kBin .int .eql v96 (.int .i64 3) fun v107 =>
kSplit v107 (
kPtr (t 7) fun l108 o108 =>
kLd g13 l108 (o108 + 0) fun v109 =>
kLd g13 l10 (0 + 1) fun v111 =>
kIndexAddr v109 v111 1 fun v112 =>
kPtr v112 fun l113 o113 =>
kLd g13 l113 o113 fun v113 =>
kLd g13 l10 (0 + 2) fun v115 =>
kBin .int .add v113 v115 fun v116 =>
kIndexAddr v109 v111 1 fun v117 =>
kPtr v117 fun lg27 og27 =>
kSt g13 lg27 og27 v116 fun g27 =>
kPtr (t 7) fun l118 o118 =>
kLd g27 l118 (o118 + 1) fun v119 =>
kPtr (t 7) fun l120 o120 =>
kLd g27 l120 (o120 + 0) fun v121 =>
kLd g27 l10 (0 + 1) fun v123 =>
kIndexAddr v121 v123 1 fun v124 =>
kPtr v124 fun l125 o125 =>
kLd g27 l125 o125 fun v125 =>
kFill (reps 1 [(.int .u64 0)]) [(0, none, v125)] fun c126 =>
kNew c126 .exact g27 n10 fun l126 g28 n126 =>
(kPtr (ptr l118 (o118 + 1)) fun l _ => g28 l = g27 l) ∧ kAppend v119 (.slice (some ⟨l126, 0, none⟩) 1 1) 1 8 g28 n126 fun v127 g29 n127 =>
kPtr (t 7) fun l128 o128 =>
kSt g29 l128 (o128 + 1) v127 fun g30 =>
bellowsref26_Run_j2 C K I_l1 (puts t [(31, (t 9)), (32, (ptr l32 (o32 + 0))), (33, v33), (34, v34), (35, v35), (38, (ptr l38 (o38 + 0))), (39, v39), (40, (t 9)), (41, v41), (42, (.agg c42.toArray)), (10, (ptr l10 0)), (43, (ptr l10 (0 + 1))), (44, v44), (45, v45), (46, (.bool false)), (47, (ptr l10 (0 + 1))), (48, v48), (49, (t 0)), (50, v50), (51, v51), (52, v51), (56, (ptr l10 (0 + 0))), (57, v57), (58, v58), (70, (ptr l10 (0 + 0))), (71, v71), (72, v72), (73, (.bool true)), (74, (ptr l74 (o74 + 0))), (75, v75), (76, (ptr l10 (0 + 1))), (77, v77), (78, v78), (79, v79), (80, v80), (81, v80), (87, (t 8)), (88, (t 1)), (89, v89), (93, (t 8)), (94, v94), (8, v94), (95, (ptr l10 (0 + 0))), (96, v96), (98, v98), (97, v98), (107, v107), (106, v107), (108, (ptr l108 (o108 + 0))), (109, v109), (110, (ptr l10 (0 + 1))), (111, v111), (112, v112), (113, v113), (114, (ptr l10 (0 + 2))), (115, v115), (116, v116), (117, v117), (118, (ptr l118 (o118 + 1))), (119, v119), (120, (ptr l120 (o120 + 0))), (121, v121), (122, (ptr l10 (0 + 1))), (123, v123), (124, v124), (125, v125), (126, (.slice (some ⟨l126, 0, none⟩) 1 1)), (127, v127), (128, (ptr l128 (o128 + 1)))]) g30 n127) (
kBin .int .eql v96 (.int .i64 4) fun v130 =>
kSplit v130 (
kPtr (t 7) fun l131 o131 =>
kLd g13 l131 (o131 + 0) fun v132 =>
kLd g13 l10 (0 + 1) fun v134 =>
kLd g13 l10 (0 + 2) fun v136 =>
kIndexAddr v132 v134 1 fun v137 =>
kPtr v137 fun lg31 og31 =>
kSt g13 lg31 og31 v136 fun g31 =>
kPtr (t 7) fun l138 o138 =>
kLd g31 l138 (o138 + 1) fun v139 =>
kFill (reps 1 [(.int .u64 0)]) [(0, none, (.int .u64 1))] fun c140 =>
kNew c140 .exact g31 n10 fun l140 g32 n140 =>
kAppend v139 (.slice (some ⟨l140, 0, none⟩) 1 1) 1 8 g32 n140 fun v141 g33 n141 =>
kPtr (t 7) fun l142 o142 =>
kSt g33 l142 (o142 + 1) v141 fun g34 =>
bellowsref26_Run_j2 C K I_l1 (puts t [(31, (t 9)), (32, (ptr l32 (o32 + 0))), (33, v33), (34, v34), (35, v35), (38, (ptr l38 (o38 + 0))), (39, v39), (40, (t 9)), (41, v41), (42, (.agg c42.toArray)), (10, (ptr l10 0)), (43, (ptr l10 (0 + 1))), (44, v44), (45, v45), (46, (.bool false)), (47, (ptr l10 (0 + 1))), (48, v48), (49, (t 0)), (50, v50), (51, v51), (52, v51), (56, (ptr l10 (0 + 0))), (57, v57), (58, v58), (70, (ptr l10 (0 + 0))), (71, v71), (72, v72), (73, (.bool true)), (74, (ptr l74 (o74 + 0))), (75, v75), (76, (ptr l10 (0 + 1))), (77, v77), (78, v78), (79, v79), (80, v80), (81, v80), (87, (t 8)), (88, (t 1)), (89, v89), (93, (t 8)), (94, v94), (8, v94), (95, (ptr l10 (0 + 0))), (96, v96), (98, v98), (97, v98), (107, v107), (106, v107), (130, v130), (129, v130), (131, (ptr l131 (o131 + 0))), (132, v132), (133, (ptr l10 (0 + 1))), (134, v134), (135, (ptr l10 (0 + 2))), (136, v136), (137, v137), (138, (ptr l138 (o138 + 1))), (139, v139), (140, (.slice (some ⟨l140, 0, none⟩) 1 1)), (141, v141), (142, (ptr l142 (o142 + 1)))]) g34 n141) (
bellowsref26_Run_j2 C K I_l1 (puts t [(31, (t 9)), (32, (ptr l32 (o32 + 0))), (33, v33), (34, v34), (35, v35), (38, (ptr l38 (o38 + 0))), (39, v39), (40, (t 9)), (41, v41), (42, (.agg c42.toArray)), (10, (ptr l10 0)), (43, (ptr l10 (0 + 1))), (44, v44), (45, v45), (46, (.bool false)), (47, (ptr l10 (0 + 1))), (48, v48), (49, (t 0)), (50, v50), (51, v51), (52, v51), (56, (ptr l10 (0 + 0))), (57, v57), (58, v58), (70, (ptr l10 (0 + 0))), (71, v71), (72, v72), (73, (.bool true)), (74, (ptr l74 (o74 + 0))), (75, v75), (76, (ptr l10 (0 + 1))), (77, v77), (78, v78), (79, v79), (80, v80), (81, v80), (87, (t 8)), (88, (t 1)), (89, v89), (93, (t 8)), (94, v94), (8, v94), (95, (ptr l10 (0 + 0))), (96, v96), (98, v98), (97, v98), (107, v107), (106, v107), (130, v130), (129, v130)]) g13 n10)))))) (
kBin .int .geq (t 8) (t 1) fun v89 =>
kSplit v89 (
kPtr (t 7) fun l90 o90 =>
kLdN g13 l90 o90 3 fun c90 =>
C bellowsref26_Ran_end_id [(.agg c90.toArray), (t 0), (.int .u64 102)] g13 n10 fun v92 g35 n92 =>
kPtr (t 6) fun lg36 og36 =>
kAgg v92 fun cg36 =>
cg36.length = 3 ∧ kStN g35 lg36 og36 cg36 fun g36 =>
kPtr (t 6) fun lr0 or0 =>
kLdN g36 lr0 or0 3 fun r0 =>
aRet K (.agg r0.toArray) g36 n92) (
kBin .int .add (t 8) (.int .i64 1) fun v94 =>
kLd g13 l10 (0 + 0) fun v96 =>
kBin .int .eql v96 (.int .i64 2) fun v98 =>
kSplit v98 (
kPtr (t 7) fun l99 o99 =>
kLd g13 l99 (o99 + 0) fun v100 =>
kLd g13 l10 (0 + 1) fun v102 =>
kLd g13 l10 (0 + 2) fun v104 =>
kIndexAddr v100 v102 1 fun v105 =>
kPtr v105 fun lg37 og37 =>
kSt g13 lg37 og37 v104 fun g37 =>
bellowsref26_Run_j2 C K I_l1 (puts t [(31, (t 9)), (32, (ptr l32 (o32 + 0))), (33, v33), (34, v34), (35, v35), (38, (ptr l38 (o38 + 0))), (39, v39), (40, (t 9)), (41, v41), (42, (.agg c42.toArray)), (10, (ptr l10 0)), (43, (ptr l10 (0 + 1))), (44, v44), (45, v45), (46, (.bool false)), (47, (ptr l10 (0 + 1))), (48, v48), (49, (t 0)), (50, v50), (51, v51), (52, v51), (56, (ptr l10 (0 + 0))), (57, v57), (58, v58), (70, (ptr l10 (0 + 0))), (71, v71), (72, v72), (73, (.bool false)), (74, undef), (75, undef), (76, undef), (77, undef), (78, undef), (79, undef), (80, undef), (81, (.bool false)), (87, (t 8)), (88, (t 1)), (89, v89), (93, (t 8)), (94, v94), (8, v94), (95, (ptr l10 (0 + 0))), (96, v96), (98, v98), (97, v98), (99, (ptr l99 (o99 + 0))), (100, v100), (101, (ptr l10 (0 + 1))), (102, v102), (103, (ptr l10 (0 + 2))), (104, v104), (105, v105)]) g37 n10) (
kBin .int .eql v96 (.int .i64 3) fun v107 =>
kSplit v107 (
kPtr (t 7) fun l108 o108 =>
kLd g13 l108 (o108 + 0) fun v109 =>
kLd g13 l10 (0 + 1) fun v111 =>
kIndexAddr v109 v111 1 fun v112 =>
kPtr v112 fun l113 o113 =>
kLd g13 l113 o113 fun v113 =>
kLd g13 l10 (0 + 2) fun v115 =>
kBin .int .add v113 v115 fun v116 =>
kIndexAddr v109 v111 1 fun v117 =>
kPtr v117 fun lg38 og38 =>
kSt g13 lg38 og38 v116 fun g38 =>
kPtr (t 7) fun l118 o118 =>
kLd g38 l118 (o118 + 1) fun v119 =>
kPtr (t 7) fun l120 o120 =>
kLd g38 l120 (o120 + 0) fun v121 =>
kLd g38 l10 (0 + 1) fun v123 =>
kIndexAddr v121 v123 1 fun v124 =>
kPtr v124 fun l125 o125 =>
kLd g38 l125 o125 fun v125 =>
kFill (reps 1 [(.int .u64 0)]) [(0, none, v125)] fun c126 =>
kNew c126 .exact g38 n10 fun l126 g39 n126 =>
(kPtr (ptr l118 (o118 + 1)) fun l _ => g39 l = g38 l) ∧ kAppend v119 (.slice (some ⟨l126, 0, none⟩) 1 1) 1 8 g39 n126 fun v127 g40 n127 =>
kPtr (t 7) fun l128 o128 =>
kSt g40 l128 (o128 + 1) v127 fun g41 =>
bellowsref26_Run_j2 C K I_l1 (puts t [(31, (t 9)), (32, (ptr l32 (o32 + 0))), (33, v33), (34, v34), (35, v35), (38, (ptr l38 (o38 + 0))), (39, v39), (40, (t 9)), (41, v41), (42, (.agg c42.toArray)), (10, (ptr l10 0)), (43, (ptr l10 (0 + 1))), (44, v44), (45, v45), (46, (.bool false)), (47, (ptr l10 (0 + 1))), (48, v48), (49, (t 0)), (50, v50), (51, v51), (52, v51), (56, (ptr l10 (0 + 0))), (57, v57), (58, v58), (70, (ptr l10 (0 + 0))), (71, v71), (72, v72), (73, (.bool false)), (74, undef), (75, undef), (76, undef), (77, undef), (78, undef), (79, undef), (80, undef), (81, (.bool false)), (87, (t 8)), (88, (t 1)), (89, v89), (93, (t 8)), (94, v94), (8, v94), (95, (ptr l10 (0 + 0))), (96, v96), (98, v98), (97, v98), (107, v107), (106, v107), (108, (ptr l108 (o108 + 0))), (109, v109), (110, (ptr l10 (0 + 1))), (111, v111), (112, v112), (113, v113), (114, (ptr l10 (0 + 2))), (115, v115), (116, v116), (117, v117), (118, (ptr l118 (o118 + 1))), (119, v119), (120, (ptr l120 (o120 + 0))), (121, v121), (122, (ptr l10 (0 + 1))), (123, v123), (124, v124), (125, v125), (126, (.slice (some ⟨l126, 0, none⟩) 1 1)), (127, v127), (128, (ptr l128 (o128 + 1)))]) g41 n127) (
kBin .int .eql v96 (.int .i64 4) fun v130 =>
kSplit v130 (
kPtr (t 7) fun l131 o131 =>
kLd g13 l131 (o131 + 0) fun v132 =>
kLd g13 l10 (0 + 1) fun v134 =>
kLd g13 l10 (0 + 2) fun v136 =>
kIndexAddr v132 v134 1 fun v137 =>
kPtr v137 fun lg42 og42 =>
kSt g13 lg42 og42 v136 fun g42 =>
kPtr (t 7) fun l138 o138 =>
kLd g42 l138 (o138 + 1) fun v139 =>
kFill (reps 1 [(.int .u64 0)]) [(0, none, (.int .u64 1))] fun c140 =>
kNew c140 .exact g42 n10 fun l140 g43 n140 =>
kAppend v139 (.slice (some ⟨l140, 0, none⟩) 1 1) 1 8 g43 n140 fun v141 g44 n141 =>
kPtr (t 7) fun l142 o142 =>
kSt g44 l142 (o142 + 1) v141 fun g45 =>
bellowsref26_Run_j2 C K I_l1 (puts t [(31, (t 9)), (32, (ptr l32 (o32 + 0))), (33, v33), (34, v34), (35, v35), (38, (ptr l38 (o38 + 0))), (39, v39), (40, (t 9)), (41, v41), (42, (.agg c42.toArray)), (10, (ptr l10 0)), (43, (ptr l10 (0 + 1))), (44, v44), (45, v45), (46, (.bool false)), (47, (ptr l10 (0 + 1))), (48, v48), (49, (t 0)), (50, v50), (51, v51), (52, v51), (56, (ptr l10 (0 + 0))), (57, v57), (58, v58), (70, (ptr l10 (0 + 0))), (71, v71), (72, v72), (73, (.bool false)), (74, undef), (75, undef), (76, undef), (77, undef), (78, undef), (79, undef), (80, undef), (81, (.bool false)), (87, (t 8)), (88, (t 1)), (89, v89), (93, (t 8)), (94, v94), (8, v94), (95, (ptr l10 (0 + 0))), (96, v96), (98, v98), (97, v98), (107, v107), (106, v107), (130, v130), (129, v130), (131, (ptr l131 (o131 + 0))), (132, v132), (133, (ptr l10 (0 + 1))), (134, v134), (135, (ptr l10 (0 + 2))), (136, v136), (137, v137), (138, (ptr l138 (o138 + 1))), (139, v139), (140, (.slice (some ⟨l140, 0, none⟩) 1 1)), (141, v141), (142, (ptr l142 (o142 + 1)))]) g45 n141) (
bellowsref26_Run_j2 C K I_l1 (puts t [(31, (t 9)), (32, (ptr l32 (o32 + 0))), (33, v33), (34, v34), (35, v35), (38, (ptr l38 (o38 + 0))), (39, v39), (40, (t 9)), (41, v41), (42, (.agg c42.toArray)), (10, (ptr l10 0)), (43, (ptr l10 (0 + 1))), (44, v44), (45, v45), (46, (.bool false)), (47, (ptr l10 (0 + 1))), (48, v48), (49, (t 0)), (50, v50), (51, v51), (52, v51), (56, (ptr l10 (0 + 0))), (57, v57), (58, v58), (70, (ptr l10 (0 + 0))), (71, v71), (72, v72), (73, (.bool false)), (74, undef), (75, undef), (76, undef), (77, undef), (78, undef), (79, undef), (80, undef), (81, (.bool false)), (87, (t 8)), (88, (t 1)), (89, v89), (93, (t 8)), (94, v94), (8, v94), (95, (ptr l10 (0 + 0))), (96, v96), (98, v98), (97, v98), (107, v107), (106, v107), (130, v130), (129, v130)]) g13 n10))))))))) (
bellowsref26_Run_j3 C K (puts t [(31, (t 9)), (32, (ptr l32 (o32 + 0))), (33, v33), (34, v34), (35, v35)]) g n)

def bellowsref26_Run (C : CT) (a0 a1 a2 : Value) (g : G) (n : Nat) (K : Cont) : Prop :=
kAgg a2 fun c5 =>
kNew c5 .exact g n fun l5 g1 n5 =>
kNew [(.slice none 0 0), (.slice none 0 0), (.int .i64 0)] .exact g1 n5 fun l6 g2 n6 =>
kLdN g2 l5 0 2 fun c11 =>
C bellowsref25_Good_id [(.agg c11.toArray)] g2 n6 fun v12 g3 n12 =>
kUn .not v12 fun v13 =>
kSplit v13 (
kFill [(.slice none 0 0), (.slice none 0 0), (.int .i64 0)] [(2, none, (.int .i64 11))] fun c14 =>
kAgg (.agg c14.toArray) fun cg4 =>
cg4.length = 3 ∧ kStN g3 l6 0 cg4 fun g4 =>
kLdN g4 l6 0 3 fun r0 =>
aRet K (.agg r0.toArray) g4 n12) (
kBin .int .lss a1 (.int .i64 0) fun v16 =>
kSplit v16 (
kFill [(.slice none 0 0), (.slice none 0 0), (.int .i64 0)] [(2, none, (.int .i64 1))] fun c26 =>
kAgg (.agg c26.toArray) fun cg5 =>
cg5.length = 3 ∧ kStN g3 l6 0 cg5 fun g5 =>
kLdN g5 l6 0 3 fun r0 =>
aRet K (.agg r0.toArray) g5 n12) (
kBin .int .gtr a1 (.int .i64 1000) fun v19 =>
kSplit v19 (
kFill [(.slice none 0 0), (.slice none 0 0), (.int .i64 0)] [(2, none, (.int .i64 1))] fun c26 =>
kAgg (.agg c26.toArray) fun cg6 =>
cg6.length = 3 ∧ kStN g3 l6 0 cg6 fun g6 =>
kLdN g6 l6 0 3 fun r0 =>
aRet K (.agg r0.toArray) g6 n12) (
kLen a0 fun v23 =>
kBin .int .gtr v23 (.int .i64 1000) fun v24 =>
kSplit v24 (
kFill [(.slice none 0 0), (.slice none 0 0), (.int .i64 0)] [(2, none, (.int .i64 1))] fun c26 =>
kAgg (.agg c26.toArray) fun cg7 =>
cg7.length = 3 ∧ kStN g3 l6 0 cg7 fun g7 =>
kLdN g7 l6 0 3 fun r0 =>
aRet K (.agg r0.toArray) g7 n12) (
kFill (reps 0 [(.int .u64 0)]) [] fun c27 =>
kNew c27 .exact g3 n12 fun l27 g8 n27 =>
kAppend (.slice (some ⟨l27, 0, none⟩) 0 0) a0 1 8 g8 n27 fun v29 g9 n29 =>
kFill [(.slice none 0 0), (.slice none 0 0), (.int .i64 0)] [(0, none, v29)] fun c30 =>
kNew [(.slice none 0 0), (.slice none 0 0), (.int .i64 0)] .exact g9 n29 fun l7 g10 n7 =>
kAgg (.agg c30.toArray) fun cg11 =>
cg11.length = 3 ∧ kStN g10 l7 0 cg11 fun g11 =>
lfp (bellowsref26_Run_l1 C K) (puts (args0 [a0, a1, a2]) [(5, (ptr l5 0)), (6, (ptr l6 0)), (11, (.agg c11.toArray)), (12, v12), (13, v13), (15, a1), (16, v16), (17, (.bool false)), (18, a1), (19, v19), (20, v19), (21, (.bool false)), (22, a0), (23, v23), (24, v24), (25, v24), (27, (.slice (some ⟨l27, 0, none⟩) 0 0)), (28, a0), (29, v29), (30, (.agg c30.toArray)), (7, (ptr l7 0)), (8, (.int .i64 0)), (9, (.int .i64 0))]) g11 n7))))

theorem bellowsref26_Run_eq (C : CT) (a0 a1 a2 : Value) (g : G) (n : Nat) (K : Cont) : bellowsref26_Run C a0 a1 a2 g n K = abody Try.prog C bellowsref26_Run_id [a0, a1, a2] g n K := by kernel_rfl

/- bellows/bellowsref22.Room -/
def bellowsref22_Room (C : CT) (a0 : Value) (g : G) (n : Nat) (K : Cont) : Prop :=
kAgg a0 fun c1 =>
kNew c1 .exact g n fun l1 g1 n1 =>
kLdN g1 l1 0 9 fun c3 =>
C bellowsref22_Good_id [(.agg c3.toArray)] g1 n1 fun v4 g2 n4 =>
kUn .not v4 fun v5 =>
kSplit v5 (
aRet K (.int .i64 0) g2 n4) (
kLd g2 l1 (0 + 7) fun v7 =>
kBin .int .mul (.int .i64 4) v7 fun v8 =>
aRet K v8 g2 n4)

theorem bellowsref22_Room_eq (C : CT) (a0 : Value) (g : G) (n : Nat) (K : Cont) : bellowsref22_Room C a0 g n K = abody Try.prog C bellowsref22_Room_id [a0] g n K := by kernel_rfl

/- bellows/crash.of -/
def crash_of_j4 (C : CT) (K : Cont) (I_l1 : ECont) (t : Env) (g : G) (n : Nat) : Prop :=
kSplit (t 95) (
kPtr (t 12) fun l100 o100 =>
kLd g l100 (o100 + 0) fun v101 =>
kFill (reps 1 [(.int .i64 0)]) [(0, none, (t 14))] fun c103 =>
kNew c103 .exact g n fun l103 g14 n103 =>
kAppend v101 (.slice (some ⟨l103, 0, none⟩) 1 1) 1 8 g14 n103 fun v104 g15 n104 =>
kPtr (t 12) fun l105 o105 =>
kSt g15 l105 (o105 + 0) v104 fun g16 =>
kPtr (t 12) fun l107 o107 =>
kSt g16 l107 (o107 + 1) (t 16) fun g17 =>
kBin .int .add (t 41) (.int .i64 1) fun v112 =>
I_l1 (puts t [(100, (ptr l100 (o100 + 0))), (101, v101), (102, (t 14)), (103, (.slice (some ⟨l103, 0, none⟩) 1 1)), (104, v104), (105, (ptr l105 (o105 + 0))), (106, (t 16)), (107, (ptr l107 (o107 + 1))), (112, v112), (41, v112)]) g17 n104) (
kSplit (t 20) (
kPtr (t 12) fun l111 o111 =>
kSt g l111 (o111 + 2) (t 16) fun g18 =>
kBin .int .add (t 41) (.int .i64 1) fun v112 =>
I_l1 (puts t [(109, (t 20)), (108, (t 20)), (110, (t 16)), (111, (ptr l111 (o111 + 2))), (112, v112), (41, v112)]) g18 n) (
kBin .int .add (t 41) (.int .i64 1) fun v112 =>
I_l1 (puts t [(109, (t 20)), (108, (t 20)), (112, v112), (41, v112)]) g n))

def crash_of_j3 (C : CT) (K : Cont) (I_l1 : ECont) (t : Env) (g : G) (n : Nat) : Prop :=
kLen (t 17) fun v90 =>
kBin .int .sub v90 (.int .i64 1) fun v91 =>
kIndexAddr (t 17) v91 1 fun v92 =>
kPtr v92 fun l93 o93 =>
kLd g l93 o93 fun v93 =>
kBin .int .eql v93 (.int .u64 101) fun v94 =>
kSplit v94 (
crash_of_j4 C K I_l1 (puts t [(88, (t 17)), (89, (t 17)), (90, v90), (91, v91), (92, v92), (93, v93), (94, v94), (20, v94), (96, v94), (97, (.bool true)), (98, (t 19)), (99, (t 19)), (95, (t 19))]) g n) (
crash_of_j4 C K I_l1 (puts t [(88, (t 17)), (89, (t 17)), (90, v90), (91, v91), (92, v92), (93, v93), (94, v94), (20, v94), (96, v94), (97, (.bool false)), (98, undef), (99, (.bool false)), (95, (.bool false))]) g n)

def crash_of_j2 (C : CT) (K : Cont) (I_l1 : ECont) (t : Env) (g : G) (n : Nat) : Prop :=
kBin .int .neq (t 18) (.int .i64 0) fun v65 =>
kSplit v65 (
kFill [(.slice none 0 0), (.slice none 0 0), (.slice none 0 0)] [] fun c66 =>
kPtr (t 8) fun lg13 og13 =>
kAgg (.agg c66.toArray) fun cg13 =>
cg13.length = 3 ∧ kStN g lg13 og13 cg13 fun g13 =>
kPtr (t 8) fun lr0 or0 =>
kLdN g13 lr0 or0 3 fun r0 =>
aRet K (.tuple #[(.agg r0.toArray), (t 18)]) g13 n) (
kLen (t 13) fun v70 =>
kBin .int .sub v70 (.int .i64 1) fun v71 =>
kBin .int .lss (t 14) v71 fun v72 =>
kSplit v72 (
crash_of_j3 C K I_l1 (puts t [(64, (t 18)), (65, v65), (68, (t 14)), (69, (t 13)), (70, v70), (71, v71), (72, v72), (73, (.bool true)), (74, undef), (75, undef), (76, undef), (77, undef), (79, undef), (80, undef), (84, undef), (85, undef), (78, undef), (81, undef), (82, undef), (83, undef), (86, undef), (87, (.bool true)), (19, (.bool true))]) g n) (
kPtr (t 4) fun l74 o74 =>
kLdN g l74 o74 9 fun c74 =>
kIndexArr (t 15) (.int .i64 0) 2 1 fun v76 =>
kPtr v76 fun l77 o77 =>
kLd g l77 o77 fun v77 =>
kIndexArr (t 15) (.int .i64 1) 2 1 fun v79 =>
kPtr v79 fun l80 o80 =>
kLd g l80 o80 fun v80 =>
kLen (t 17) fun v85 =>
C serial_Told_id [(.agg c74.toArray), (t 3), v77] g n fun v78 g19 n78 =>
(kPtr v79 fun l _ => g19 l = g l) ∧ kIndexAddr v78 v80 1 fun v81 =>
kPtr v81 fun l82 o82 =>
kLd g19 l82 o82 fun v82 =>
kLen v82 fun v83 =>
kBin .int .eql v83 v85 fun v86 =>
crash_of_j3 C K I_l1 (puts t [(64, (t 18)), (65, v65), (68, (t 14)), (69, (t 13)), (70, v70), (71, v71), (72, v72), (73, (.bool false)), (74, (.agg c74.toArray)), (75, (t 3)), (76, v76), (77, v77), (79, v79), (80, v80), (84, (t 17)), (85, v85), (78, v78), (81, v81), (82, v82), (83, v83), (86, v86), (87, v86), (19, v86)]) g19 n78))

def crash_of_j5 (C : CT) (K : Cont) (t : Env) (g : G) (n : Nat) : Prop :=
kPtr (t 12) fun l113 o113 =>
kLdN g l113 o113 3 fun c113 =>
kPtr (t 8) fun lg20 og20 =>
kAgg (.agg c113.toArray) fun cg20 =>
cg20.length = 3 ∧ kStN g lg20 og20 cg20 fun g20 =>
kPtr (t 8) fun lr0 or0 =>
kLdN g20 lr0 or0 3 fun r0 =>
aRet K (.tuple #[(.agg r0.toArray), (.int .i64 0)]) g20 n

def crash_of_l1 (C : CT) (K : Cont) (I_l1 : ECont) (t : Env) (g : G) (n : Nat) : Prop :=
kBin .int .lss (t 41) (t 40) fun v42 =>
kSplit v42 (
kIndexAddr (t 39) (t 41) 2 fun v44 =>
kPtr v44 fun l45 o45 =>
kLdN g l45 o45 2 fun c45 =>
kNew [(.int .i64 0), (.int .i64 0)] .exact g n fun l15 g9 n15 =>
kAgg (.agg c45.toArray) fun cg10 =>
cg10.length = 2 ∧ kStN g9 l15 0 cg10 fun g10 =>
kPtr (t 12) fun l47 o47 =>
kLd g10 l47 (o47 + 1) fun v48 =>
kPtr (t 4) fun l49 o49 =>
kLdN g10 l49 o49 9 fun c49 =>
kIndexArr (ptr l15 0) (.int .i64 0) 2 1 fun v52 =>
kPtr v52 fun l53 o53 =>
kLd g10 l53 o53 fun v53 =>
kIndexAddr (t 2) v53 1 fun v54 =>
kPtr v54 fun l55 o55 =>
kLd g10 l55 o55 fun v55 =>
kIndexArr (ptr l15 0) (.int .i64 1) 2 1 fun v56 =>
kPtr v56 fun l57 o57 =>
kLd g10 l57 o57 fun v57 =>
kIndexAddr v55 v57 2 fun v58 =>
kPtr v58 fun l59 o59 =>
kLdN g10 l59 o59 2 fun c59 =>
C layout_Room_id [(.agg c49.toArray)] g10 n15 fun v50 g11 n50 =>
(kPtr (ptr l47 (o47 + 1)) fun l _ => g11 l = g10 l) ∧ (kPtr v52 fun l _ => g11 l = g10 l) ∧ (kPtr v54 fun l _ => g11 l = g10 l) ∧ (kPtr v56 fun l _ => g11 l = g10 l) ∧ (kPtr v58 fun l _ => g11 l = g10 l) ∧ C model_Run_id [v48, v50, (.agg c59.toArray)] g11 n50 fun v60 g12 n60 =>
kExtract v60 0 fun v61 =>
kExtract v60 1 fun v62 =>
kExtract v60 2 fun v63 =>
crash_of_j2 C K I_l1 (puts t [(42, v42), (43, (t 41)), (44, v44), (45, (.agg c45.toArray)), (15, (ptr l15 0)), (14, (t 41)), (47, (ptr l47 (o47 + 1))), (48, v48), (49, (.agg c49.toArray)), (51, (t 2)), (52, v52), (53, v53), (54, v54), (55, v55), (56, v56), (57, v57), (58, v58), (59, (.agg c59.toArray)), (50, v50), (60, v60), (46, v60), (61, v61), (62, v62), (63, v63), (16, v61), (17, v62), (18, v63)]) g12 n60) (
crash_of_j5 C K (puts t [(42, v42)]) g n)

def crash_of (C : CT) (a0 a1 a2 a3 : Value) (g : G) (n : Nat) (K : Cont) : Prop :=
kAgg a0 fun c4 =>
kNew c4 .exact g n fun l4 g1 n4 =>
kNew [(.slice none 0 0), (.slice none 0 0), (.slice none 0 0)] .exact g1 n4 fun l8 g2 n8 =>
kLdN g2 l4 0 9 fun c22 =>
C serial_Check_id [(.agg c22.toArray), a1, a2, a3] g2 n8 fun v26 g3 n26 =>
kExtract v26 0 fun v27 =>
kExtract v26 1 fun v28 =>
kBin .int .neq v28 (.int .i64 0) fun v30 =>
kSplit v30 (
kFill [(.slice none 0 0), (.slice none 0 0), (.slice none 0 0)] [] fun c31 =>
kAgg (.agg c31.toArray) fun cg4 =>
cg4.length = 3 ∧ kStN g3 l8 0 cg4 fun g4 =>
kLdN g4 l8 0 3 fun r0 =>
aRet K (.tuple #[(.agg r0.toArray), v28]) g4 n26) (
C slices_Clone_uint64_uint64_id [a1] g3 n26 fun v34 g5 n34 =>
kFill [(.slice none 0 0), (.slice none 0 0), (.slice none 0 0)] [(1, none, v34)] fun c35 =>
kNew [(.slice none 0 0), (.slice none 0 0), (.slice none 0 0)] .exact g5 n34 fun l12 g6 n12 =>
kAgg (.agg c35.toArray) fun cg7 =>
cg7.length = 3 ∧ kStN g6 l12 0 cg7 fun g7 =>
kLdN g7 l4 0 9 fun c36 =>
C serial_Begins_id [(.agg c36.toArray), a3] g7 n12 fun v38 g8 n38 =>
kLen v38 fun v40 =>
lfp (crash_of_l1 C K) (puts (args0 [a0, a1, a2, a3]) [(4, (ptr l4 0)), (8, (ptr l8 0)), (9, (.int .i64 0)), (22, (.agg c22.toArray)), (23, a1), (24, a2), (25, a3), (26, v26), (21, v26), (27, v27), (28, v28), (10, v27), (11, v28), (29, v28), (30, v30), (33, a1), (34, v34), (35, (.agg c35.toArray)), (12, (ptr l12 0)), (36, (.agg c36.toArray)), (37, a3), (38, v38), (13, v38), (39, v38), (40, v40), (41, (.int .i64 0))]) g8 n38)

theorem crash_of_eq (C : CT) (a0 a1 a2 a3 : Value) (g : G) (n : Nat) (K : Cont) : crash_of C a0 a1 a2 a3 g n K = abody Try.prog C crash_of_id [a0, a1, a2, a3] g n K := by kernel_rfl

/- (bellows/bellowsref26.Ran).Taken -/
def bellowsref26_Ran_Taken (C : CT) (a0 : Value) (g : G) (n : Nat) (K : Cont) : Prop :=
kAgg a0 fun c1 =>
kNew c1 .exact g n fun l1 g1 n1 =>
kLd g1 l1 (0 + 1) fun v4 =>
kLen v4 fun v5 =>
kBin .int .eql v5 (.int .i64 0) fun v6 =>
kSplit v6 (
aRet K (.bool true) g1 n1) (
kLd g1 l1 (0 + 1) fun v9 =>
kLd g1 l1 (0 + 1) fun v11 =>
kLen v11 fun v12 =>
kBin .int .sub v12 (.int .i64 1) fun v13 =>
kIndexAddr v9 v13 1 fun v14 =>
kPtr v14 fun l15 o15 =>
kLd g1 l15 o15 fun v15 =>
kBin .int .neq v15 (.int .u64 101) fun v16 =>
aRet K v16 g1 n1)

theorem bellowsref26_Ran_Taken_eq (C : CT) (a0 : Value) (g : G) (n : Nat) (K : Cont) : bellowsref26_Ran_Taken C a0 g n K = abody Try.prog C bellowsref26_Ran_Taken_id [a0] g n K := by kernel_rfl

/- bellows/crash.among[[]uint64] -/
def crash_among_uint64 (C : CT) (a0 a1 a2 : Value) (g : G) (n : Nat) (K : Cont) : Prop :=
isCell a0 = true ∧ kNew [a0] .exact g n fun l3 g1 n3 =>
isCell a2 = true ∧ kNew [a2] .exact g1 n3 fun l5 g2 n5 =>
C slices_ContainsFunc_uint64_uint64_id [a1, (.func (.func crash_among_uint64_1_id) #[] #[(ptr l5 0), (ptr l3 0)])] g2 n5 fun v9 g3 n9 =>
aRet K v9 g3 n9

theorem crash_among_uint64_eq (C : CT) (a0 a1 a2 : Value) (g : G) (n : Nat) (K : Cont) : crash_among_uint64 C a0 a1 a2 g n K = abody Try.prog C crash_among_uint64_id [a0, a1, a2] g n K := by kernel_rfl

/- bellows/layout.of -/
def layout_of (C : CT) (a0 : Value) (g : G) (n : Nat) (K : Cont) : Prop :=
kAgg a0 fun c1 =>
kNew c1 .exact g n fun l1 g1 n1 =>
kFill [(.int .u32 0), (.int .i32 0), (.int .u32 0), (.bool false), (.int .i64 0), (.int .i64 0), (.int .i64 0), (.int .i64 0)] [] fun c4 =>
kAgg (.agg c4.toArray) fun c5 =>
kNew c5 .exact g1 n1 fun l5 g2 n5 =>
kNew [(.pointer none)] .exact g2 n5 fun l3 g3 n3 =>
kSt g3 l3 0 (ptr l5 0) fun g4 =>
kLd g4 l3 0 fun v6 =>
kNil v6 fun v7 =>
kPtr v7 fun l8 o8 =>
C sync_Once_Do_id [(ptr l8 (o8 + 0)), (.func (.func layout_of_1_id) #[] #[(ptr l3 0), (ptr l1 0)])] g4 n3 fun v10 g5 n10 =>
kLd g5 l3 0 fun v11 =>
aRet K v11 g5 n10

theorem layout_of_eq (C : CT) (a0 : Value) (g : G) (n : Nat) (K : Cont) : layout_of C a0 g n K = abody Try.prog C layout_of_id [a0] g n K := by kernel_rfl

/- bellows/bellowsref01.Good -/
def bellowsref01_Good (C : CT) (a0 : Value) (g : G) (n : Nat) (K : Cont) : Prop :=
kAgg a0 fun c1 =>
kNew c1 .exact g n fun l1 g1 n1 =>
kLd g1 l1 (0 + 0) fun v4 =>
kBin .int .geq v4 (.int .i64 1) fun v5 =>
kSplit v5 (
kLd g1 l1 (0 + 0) fun v8 =>
kBin .int .leq v8 (.int .i64 8) fun v9 =>
kSplit v9 (
kLd g1 l1 (0 + 1) fun v13 =>
kBin .int .geq v13 (.int .i64 2) fun v14 =>
kSplit v14 (
kLd g1 l1 (0 + 1) fun v18 =>
kBin .int .leq v18 (.int .i64 64) fun v19 =>
kSplit v19 (
kLd g1 l1 (0 + 2) fun v23 =>
kBin .int .geq v23 (.int .i64 1) fun v24 =>
kSplit v24 (
kLd g1 l1 (0 + 2) fun v28 =>
kLd g1 l1 (0 + 1) fun v30 =>
kBin .int .lss v28 v30 fun v31 =>
kSplit v31 (
kLd g1 l1 (0 + 3) fun v35 =>
kBin .int .eql v35 (.int .i64 1) fun v36 =>
kSplit v36 (
kLd g1 l1 (0 + 4) fun v55 =>
kBin .int .geq v55 (.int .i64 1) fun v56 =>
kSplit v56 (
kLd g1 l1 (0 + 4) fun v60 =>
kBin .int .leq v60 (.int .i64 8) fun v61 =>
kSplit v61 (
kLd g1 l1 (0 + 5) fun v65 =>
kBin .int .geq v65 (.int .i64 1) fun v66 =>
kSplit v66 (
kLd g1 l1 (0 + 5) fun v70 =>
kBin .int .leq v70 (.int .i64 16) fun v71 =>
kSplit v71 (
kLd g1 l1 (0 + 6) fun v75 =>
kBin .int .geq v75 (.int .i64 1) fun v76 =>
kSplit v76 (
kLd g1 l1 (0 + 6) fun v80 =>
kBin .int .leq v80 (.int .i64 16) fun v81 =>
aRet K v81 g1 n1) (
aRet K (.bool false) g1 n1)) (
aRet K (.bool false) g1 n1)) (
aRet K (.bool false) g1 n1)) (
aRet K (.bool false) g1 n1)) (
aRet K (.bool false) g1 n1)) (
kLd g1 l1 (0 + 3) fun v39 =>
kBin .int .eql v39 (.int .i64 2) fun v40 =>
kSplit v40 (
kLd g1 l1 (0 + 4) fun v55 =>
kBin .int .geq v55 (.int .i64 1) fun v56 =>
kSplit v56 (
kLd g1 l1 (0 + 4) fun v60 =>
kBin .int .leq v60 (.int .i64 8) fun v61 =>
kSplit v61 (
kLd g1 l1 (0 + 5) fun v65 =>
kBin .int .geq v65 (.int .i64 1) fun v66 =>
kSplit v66 (
kLd g1 l1 (0 + 5) fun v70 =>
kBin .int .leq v70 (.int .i64 16) fun v71 =>
kSplit v71 (
kLd g1 l1 (0 + 6) fun v75 =>
kBin .int .geq v75 (.int .i64 1) fun v76 =>
kSplit v76 (
kLd g1 l1 (0 + 6) fun v80 =>
kBin .int .leq v80 (.int .i64 16) fun v81 =>
aRet K v81 g1 n1) (
aRet K (.bool false) g1 n1)) (
aRet K (.bool false) g1 n1)) (
aRet K (.bool false) g1 n1)) (
aRet K (.bool false) g1 n1)) (
aRet K (.bool false) g1 n1)) (
kLd g1 l1 (0 + 3) fun v44 =>
kBin .int .eql v44 (.int .i64 4) fun v45 =>
kSplit v45 (
kLd g1 l1 (0 + 4) fun v55 =>
kBin .int .geq v55 (.int .i64 1) fun v56 =>
kSplit v56 (
kLd g1 l1 (0 + 4) fun v60 =>
kBin .int .leq v60 (.int .i64 8) fun v61 =>
kSplit v61 (
kLd g1 l1 (0 + 5) fun v65 =>
kBin .int .geq v65 (.int .i64 1) fun v66 =>
kSplit v66 (
kLd g1 l1 (0 + 5) fun v70 =>
kBin .int .leq v70 (.int .i64 16) fun v71 =>
kSplit v71 (
kLd g1 l1 (0 + 6) fun v75 =>
kBin .int .geq v75 (.int .i64 1) fun v76 =>
kSplit v76 (
kLd g1 l1 (0 + 6) fun v80 =>
kBin .int .leq v80 (.int .i64 16) fun v81 =>
aRet K v81 g1 n1) (
aRet K (.bool false) g1 n1)) (
aRet K (.bool false) g1 n1)) (
aRet K (.bool false) g1 n1)) (
aRet K (.bool false) g1 n1)) (
aRet K (.bool false) g1 n1)) (
kLd g1 l1 (0 + 3) fun v49 =>
kBin .int .eql v49 (.int .i64 8) fun v50 =>
kSplit v50 (
kLd g1 l1 (0 + 4) fun v55 =>
kBin .int .geq v55 (.int .i64 1) fun v56 =>
kSplit v56 (
kLd g1 l1 (0 + 4) fun v60 =>
kBin .int .leq v60 (.int .i64 8) fun v61 =>
kSplit v61 (
kLd g1 l1 (0 + 5) fun v65 =>
kBin .int .geq v65 (.int .i64 1) fun v66 =>
kSplit v66 (
kLd g1 l1 (0 + 5) fun v70 =>
kBin .int .leq v70 (.int .i64 16) fun v71 =>
kSplit v71 (
kLd g1 l1 (0 + 6) fun v75 =>
kBin .int .geq v75 (.int .i64 1) fun v76 =>
kSplit v76 (
kLd g1 l1 (0 + 6) fun v80 =>
kBin .int .leq v80 (.int .i64 16) fun v81 =>
aRet K v81 g1 n1) (
aRet K (.bool false) g1 n1)) (
aRet K (.bool false) g1 n1)) (
aRet K (.bool false) g1 n1)) (
aRet K (.bool false) g1 n1)) (
aRet K (.bool false) g1 n1)) (
aRet K (.bool false) g1 n1))))) (
aRet K (.bool false) g1 n1)) (
aRet K (.bool false) g1 n1)) (
aRet K (.bool false) g1 n1)) (
aRet K (.bool false) g1 n1)) (
aRet K (.bool false) g1 n1)) (
aRet K (.bool false) g1 n1)

theorem bellowsref01_Good_eq (C : CT) (a0 : Value) (g : G) (n : Nat) (K : Cont) : bellowsref01_Good C a0 g n K = abody Try.prog C bellowsref01_Good_id [a0] g n K := by kernel_rfl

/- bellows/trace.chosen[bellows/api.Event,bellows/api.Event] -/
def trace_chosen_api_Event_api_Event_l1 (C : CT) (K : Cont) (I_l1 : ECont) (t : Env) (g : G) (n : Nat) : Prop :=
kBin .int .lss (t 12) (t 11) fun v13 =>
kSplit v13 (
kIndexAddr (t 10) (t 12) 5 fun v14 =>
kPtr v14 fun l15 o15 =>
kLdN g l15 o15 5 fun c15 =>
kNew [(.int .i64 0), (.int .i64 0), (.int .i64 0), (.int .i64 0), (.int .u64 0)] .exact g n fun l9 g1 n9 =>
kAgg (.agg c15.toArray) fun cg2 =>
cg2.length = 5 ∧ kStN g1 l9 0 cg2 fun g2 =>
kLdN g2 l9 0 5 fun c17 =>
kCall C (t 1) [(.agg c17.toArray)] g2 n9 fun v18 g3 n18 =>
kSplit v18 (
kLdN g3 l9 0 5 fun c21 =>
kCall C (t 2) [(.agg c21.toArray)] g3 n18 fun v22 g4 n22 =>
kFill (reps 1 [(.int .i64 0), (.int .i64 0), (.int .i64 0), (.int .i64 0), (.int .u64 0)]) [(0, (some 5), v22)] fun c23 =>
kNew c23 .exact g4 n22 fun l23 g5 n23 =>
kAppend (t 7) (.slice (some ⟨l23, 0, none⟩) 1 1) 5 40 g5 n23 fun v24 g6 n24 =>
kBin .int .add (t 12) (.int .i64 1) fun v25 =>
I_l1 (puts t [(13, v13), (14, v14), (15, (.agg c15.toArray)), (9, (ptr l9 0)), (16, (t 1)), (17, (.agg c17.toArray)), (18, v18), (19, (t 7)), (20, (t 2)), (21, (.agg c21.toArray)), (22, v22), (23, (.slice (some ⟨l23, 0, none⟩) 1 1)), (24, v24), (7, v24), (25, v25), (12, v25)]) g6 n24) (
kBin .int .add (t 12) (.int .i64 1) fun v25 =>
I_l1 (puts t [(13, v13), (14, v14), (15, (.agg c15.toArray)), (9, (ptr l9 0)), (16, (t 1)), (17, (.agg c17.toArray)), (18, v18), (25, v25), (12, v25)]) g3 n18)) (
aRet K (t 7) g n)

def trace_chosen_api_Event_api_Event (C : CT) (a0 a1 a2 : Value) (g : G) (n : Nat) (K : Cont) : Prop :=
kLen a0 fun v11 =>
lfp (trace_chosen_api_Event_api_Event_l1 C K) (puts (args0 [a0, a1, a2]) [(6, (.slice none 0 0)), (7, (.slice none 0 0)), (10, a0), (11, v11), (12, (.int .i64 0))]) g n

theorem trace_chosen_api_Event_api_Event_eq (C : CT) (a0 a1 a2 : Value) (g : G) (n : Nat) (K : Cont) : trace_chosen_api_Event_api_Event C a0 a1 a2 g n K = abody Try.prog C trace_chosen_api_Event_api_Event_id [a0, a1, a2] g n K := by kernel_rfl

/- bellows/trace.Of$1 -/
def trace_Of_1 (C : CT) (a0 a1 a2 : Value) (g : G) (n : Nat) (K : Cont) : Prop :=
kAgg a0 fun c3 =>
kNew c3 .exact g n fun l3 g1 n3 =>
kPtr a1 fun l5 o5 =>
kLd g1 l5 o5 fun v5 =>
kBin .int .eql v5 (.int .i64 0) fun v6 =>
kSplit v6 (
kPtr a2 fun l14 o14 =>
kLd g1 l14 o14 fun v14 =>
kBin .int .eql v14 (.int .i64 (-1)) fun v15 =>
kSplit v15 (
aRet K (.bool true) g1 n3) (
kLd g1 l3 (0 + 1) fun v18 =>
kPtr a2 fun l19 o19 =>
kLd g1 l19 o19 fun v19 =>
kBin .int .eql v18 v19 fun v20 =>
aRet K v20 g1 n3)) (
kLd g1 l3 (0 + 0) fun v9 =>
kPtr a1 fun l10 o10 =>
kLd g1 l10 o10 fun v10 =>
kBin .int .eql v9 v10 fun v11 =>
kSplit v11 (
kPtr a2 fun l14 o14 =>
kLd g1 l14 o14 fun v14 =>
kBin .int .eql v14 (.int .i64 (-1)) fun v15 =>
kSplit v15 (
aRet K (.bool true) g1 n3) (
kLd g1 l3 (0 + 1) fun v18 =>
kPtr a2 fun l19 o19 =>
kLd g1 l19 o19 fun v19 =>
kBin .int .eql v18 v19 fun v20 =>
aRet K v20 g1 n3)) (
aRet K (.bool false) g1 n3))

theorem trace_Of_1_eq (C : CT) (a0 a1 a2 : Value) (g : G) (n : Nat) (K : Cont) : trace_Of_1 C a0 a1 a2 g n K = abody Try.prog C trace_Of_1_id [a0, a1, a2] g n K := by kernel_rfl

/- bellows/trace.itself -/
def trace_itself (C : CT) (a0 : Value) (g : G) (n : Nat) (K : Cont) : Prop :=
kAgg a0 fun c1 =>
kNew c1 .exact g n fun l1 g1 n1 =>
kNew [(.int .i64 0), (.int .i64 0), (.int .i64 0), (.int .i64 0), (.int .u64 0)] .exact g1 n1 fun l2 g2 n2 =>
kLdN g2 l1 0 5 fun c3 =>
kAgg (.agg c3.toArray) fun cg3 =>
cg3.length = 5 ∧ kStN g2 l2 0 cg3 fun g3 =>
kLdN g3 l2 0 5 fun r0 =>
aRet K (.agg r0.toArray) g3 n2

theorem trace_itself_eq (C : CT) (a0 : Value) (g : G) (n : Nat) (K : Cont) : trace_itself C a0 g n K = abody Try.prog C trace_itself_id [a0] g n K := by kernel_rfl

/- slices.Grow[[]bellows/api.Tx,bellows/api.Tx] -/
def slices_Grow_api_Tx_api_Tx_j1 (C : CT) (K : Cont) (t : Env) (g : G) (n : Nat) : Prop :=
kCap (t 0) fun v10 =>
kLen (t 0) fun v12 =>
kBin .int .sub v10 v12 fun v13 =>
kBin .int .sub (t 1) v13 fun v14 =>
kBin .int .gtr v14 (.int .i64 0) fun v16 =>
kSplit v16 (
kCap (t 0) fun v19 =>
kSlice (t 0) none (some v19) none 2 fun v20 =>
kAppendZ v20 v14 [(.slice none 0 0), (.bool false)] 32 g n fun v22 g1 n22 =>
kLen (t 0) fun v24 =>
kSlice v22 none (some v24) none 2 fun v25 =>
aRet K v25 g1 n22) (
aRet K (t 0) g n)

def slices_Grow_api_Tx_api_Tx (C : CT) (a0 a1 : Value) (g : G) (n : Nat) (K : Cont) : Prop :=
kBin .int .lss a1 (.int .i64 0) fun v6 =>
kSplit v6 (
False) (
slices_Grow_api_Tx_api_Tx_j1 C K (puts (args0 [a0, a1]) [(4, (.slice none 0 0)), (5, a1), (6, v6)]) g n)

theorem slices_Grow_api_Tx_api_Tx_eq (C : CT) (a0 a1 : Value) (g : G) (n : Nat) (K : Cont) : slices_Grow_api_Tx_api_Tx C a0 a1 g n K = abody Try.prog C slices_Grow_api_Tx_api_Tx_id [a0, a1] g n K := by kernel_rfl

/- bellows/client.good -/
def client_good (C : CT) (a0 : Value) (g : G) (n : Nat) (K : Cont) : Prop :=
kAgg a0 fun c1 =>
kNew c1 .exact g n fun l1 g1 n1 =>
kLd g1 l1 (0 + 0) fun v5 =>
kBin .int .lss v5 (.int .i64 1) fun v6 =>
kSplit v6 (
aRet K (.bool false) g1 n1) (
kLd g1 l1 (0 + 0) fun v9 =>
kBin .int .gtr v9 (.int .i64 4) fun v10 =>
kSplit v10 (
aRet K (.bool false) g1 n1) (
kLd g1 l1 (0 + 2) fun v14 =>
kBin .int .geq v14 (.int .u64 2147483648) fun v15 =>
kSplit v15 (
aRet K (.bool false) g1 n1) (
kLd g1 l1 (0 + 0) fun v19 =>
kBin .int .eql v19 (.int .i64 1) fun v20 =>
kSplit v20 (
kLd g1 l1 (0 + 2) fun v22 =>
kBin .int .eql v22 (.int .u64 0) fun v23 =>
aRet K v23 g1 n1) (
kLd g1 l1 (0 + 0) fun v26 =>
kBin .int .eql v26 (.int .i64 4) fun v27 =>
kSplit v27 (
kLd g1 l1 (0 + 2) fun v29 =>
kBin .int .neq v29 (.int .u64 0) fun v30 =>
aRet K v30 g1 n1) (
aRet K (.bool true) g1 n1)))))

theorem client_good_eq (C : CT) (a0 : Value) (g : G) (n : Nat) (K : Cont) : client_good C a0 g n K = abody Try.prog C client_good_id [a0] g n K := by kernel_rfl

/- (*bellows/model.world).end -/
def model_world_end_j2 (C : CT) (K : Cont) (t : Env) (g : G) (n : Nat) : Prop :=
kPtr (t 3) fun l34 o34 =>
kLd g l34 (o34 + 1) fun v35 =>
kSplit v35 (
aRet K (.int .u64 104) g n) (
aRet K (.int .u64 101) g n)

def model_world_end_l1 (C : CT) (K : Cont) (I_l1 : ECont) (t : Env) (g : G) (n : Nat) : Prop :=
kBin .int .lss (t 10) (t 9) fun v11 =>
kSplit v11 (
kIndexAddr (t 8) (t 10) 3 fun v12 =>
kPtr v12 fun l13 o13 =>
kLdN g l13 o13 3 fun c13 =>
kNew [(.int .i64 0), (.int .i64 0), (.int .u64 0)] .exact g n fun l6 g2 n6 =>
kAgg (.agg c13.toArray) fun cg3 =>
cg3.length = 3 ∧ kStN g2 l6 0 cg3 fun g3 =>
kLd g3 l6 (0 + 1) fun v16 =>
kBin .int .lss v16 (.int .i64 0) fun v17 =>
kSplit v17 (
aRet K (.int .u64 103) g3 n6) (
kLd g3 l6 (0 + 1) fun v20 =>
kNil (t 0) fun v22 =>
kPtr v22 fun l23 o23 =>
kLd g3 l23 (o23 + 0) fun v24 =>
kLen v24 fun v25 =>
kBin .int .geq v20 v25 fun v26 =>
kSplit v26 (
aRet K (.int .u64 103) g3 n6) (
kLdN g3 l6 0 3 fun c30 =>
C model_world_op_id [(t 0), (.agg c30.toArray)] g3 n6 fun v31 g4 n31 =>
kUn .not v31 fun v32 =>
kSplit v32 (
aRet K (.int .u64 102) g4 n31) (
kBin .int .add (t 10) (.int .i64 1) fun v33 =>
I_l1 (puts t [(11, v11), (12, v12), (13, (.agg c13.toArray)), (6, (ptr l6 0)), (15, (ptr l6 (0 + 1))), (16, v16), (17, v17), (18, (.bool false)), (19, (ptr l6 (0 + 1))), (20, v20), (21, (t 0)), (22, v22), (23, (ptr l23 (o23 + 0))), (24, v24), (25, v25), (26, v26), (27, v26), (14, v26), (29, (t 0)), (30, (.agg c30.toArray)), (31, v31), (32, v32), (28, v32), (33, v33), (10, v33)]) g4 n31)))) (
model_world_end_j2 C K (puts t [(11, v11)]) g n)

def model_world_end (C : CT) (a0 a1 : Value) (g : G) (n : Nat) (K : Cont) : Prop :=
kAgg a1 fun c3 =>
kNew c3 .exact g n fun l3 g1 n3 =>
kLd g1 l3 (0 + 0) fun v8 =>
kLen v8 fun v9 =>
lfp (model_world_end_l1 C K) (puts (args0 [a0, a1]) [(3, (ptr l3 0)), (4, (.int .u64 0)), (7, (ptr l3 (0 + 0))), (8, v8), (9, v9), (10, (.int .i64 0))]) g1 n3

theorem model_world_end_eq (C : CT) (a0 a1 : Value) (g : G) (n : Nat) (K : Cont) : model_world_end C a0 a1 g n K = abody Try.prog C model_world_end_id [a0, a1] g n K := by kernel_rfl

/- (*bellows/model.world).tell -/
def model_world_tell (C : CT) (a0 a1 : Value) (g : G) (n : Nat) (K : Cont) : Prop :=
kNil a0 fun v6 =>
kPtr v6 fun l7 o7 =>
kLd g l7 (o7 + 4) fun v8 =>
kFill (reps 1 [(.int .u64 0)]) [(0, none, a1)] fun c10 =>
kNew c10 .exact g n fun l10 g1 n10 =>
kAppend v8 (.slice (some ⟨l10, 0, none⟩) 1 1) 1 8 g1 n10 fun v11 g2 n11 =>
kNil a0 fun v12 =>
kPtr v12 fun l13 o13 =>
kSt g2 l13 (o13 + 4) v11 fun g3 =>
aRet K (.tuple #[]) g3 n11

theorem model_world_tell_eq (C : CT) (a0 a1 : Value) (g : G) (n : Nat) (K : Cont) : model_world_tell C a0 a1 g n K = abody Try.prog C model_world_tell_id [a0, a1] g n K := by kernel_rfl

/- slices.Clone[[]uint64,uint64] -/
def slices_Clone_uint64_uint64 (C : CT) (a0 : Value) (g : G) (n : Nat) (K : Cont) : Prop :=
kBin .slice .eql a0 (.slice none 0 0) fun v4 =>
kSplit v4 (
aRet K (.slice none 0 0) g n) (
kFill (reps 0 [(.int .u64 0)]) [] fun c5 =>
kNew c5 .exact g n fun l5 g1 n5 =>
kAppend (.slice (some ⟨l5, 0, none⟩) 0 0) a0 1 8 g1 n5 fun v7 g2 n7 =>
aRet K v7 g2 n7)

theorem slices_Clone_uint64_uint64_eq (C : CT) (a0 : Value) (g : G) (n : Nat) (K : Cont) : slices_Clone_uint64_uint64 C a0 g n K = abody Try.prog C slices_Clone_uint64_uint64_id [a0] g n K := by kernel_rfl

/- (bellows/bellowsref26.Ran).end -/
def bellowsref26_Ran_end (C : CT) (a0 a1 a2 : Value) (g : G) (n : Nat) (K : Cont) : Prop :=
kAgg a0 fun c3 =>
kNew c3 .exact g n fun l3 g1 n3 =>
kNew [(.slice none 0 0), (.slice none 0 0), (.int .i64 0)] .exact g1 n3 fun l6 g2 n6 =>
kLd g2 l3 (0 + 1) fun v8 =>
kFill (reps 1 [(.int .u64 0)]) [(0, none, a2)] fun c10 =>
kNew c10 .exact g2 n6 fun l10 g3 n10 =>
kAppend v8 (.slice (some ⟨l10, 0, none⟩) 1 1) 1 8 g3 n10 fun v11 g4 n11 =>
kSt g4 l3 (0 + 1) v11 fun g5 =>
kBin .int .neq a2 (.int .u64 101) fun v14 =>
kSplit v14 (
kFill (reps 0 [(.int .u64 0)]) [] fun c15 =>
kNew c15 .exact g5 n11 fun l15 g6 n15 =>
kAppend (.slice (some ⟨l15, 0, none⟩) 0 0) a1 1 8 g6 n15 fun v17 g7 n17 =>
kSt g7 l3 (0 + 0) v17 fun g8 =>
kLdN g8 l3 0 3 fun c19 =>
kAgg (.agg c19.toArray) fun cg9 =>
cg9.length = 3 ∧ kStN g8 l6 0 cg9 fun g9 =>
kLdN g9 l6 0 3 fun r0 =>
aRet K (.agg r0.toArray) g9 n17) (
kLdN g5 l3 0 3 fun c19 =>
kAgg (.agg c19.toArray) fun cg10 =>
cg10.length = 3 ∧ kStN g5 l6 0 cg10 fun g10 =>
kLdN g10 l6 0 3 fun r0 =>
aRet K (.agg r0.toArray) g10 n11)

theorem bellowsref26_Ran_end_eq (C : CT) (a0 a1 a2 : Value) (g : G) (n : Nat) (K : Cont) : bellowsref26_Ran_end C a0 a1 a2 g n K = abody Try.prog C bellowsref26_Ran_end_id [a0, a1, a2] g n K := by kernel_rfl

/- slices.ContainsFunc[[][]uint64,[]uint64] -/
def slices_ContainsFunc_uint64_uint64 (C : CT) (a0 a1 : Value) (g : G) (n : Nat) (K : Cont) : Prop :=
C slices_IndexFunc_uint64_uint64_id [a0, a1] g n fun v7 g1 n7 =>
kBin .int .geq v7 (.int .i64 0) fun v8 =>
aRet K v8 g1 n7

theorem slices_ContainsFunc_uint64_uint64_eq (C : CT) (a0 a1 : Value) (g : G) (n : Nat) (K : Cont) : slices_ContainsFunc_uint64_uint64 C a0 a1 g n K = abody Try.prog C slices_ContainsFunc_uint64_uint64_id [a0, a1] g n K := by kernel_rfl

/- bellows/crash.among[[]uint64]$1 -/
def crash_among_uint64_1 (C : CT) (a0 a1 a2 : Value) (g : G) (n : Nat) (K : Cont) : Prop :=
kPtr a1 fun l5 o5 =>
kLd g l5 o5 fun v5 =>
kPtr a2 fun l6 o6 =>
kLd g l6 o6 fun v6 =>
kCall C v5 [v6, a0] g n fun v8 g1 n8 =>
aRet K v8 g1 n8

theorem crash_among_uint64_1_eq (C : CT) (a0 a1 a2 : Value) (g : G) (n : Nat) (K : Cont) : crash_among_uint64_1 C a0 a1 a2 g n K = abody Try.prog C crash_among_uint64_1_id [a0, a1, a2] g n K := by kernel_rfl

/- (*sync.Once).Do -/
def sync_Once_Do (C : CT) (a0 a1 : Value) (g : G) (n : Nat) (K : Cont) : Prop :=
kNil a0 fun v5 =>
kPtr v5 fun l6 o6 =>
C sync_atomic_Bool_Load_id [(ptr l6 (o6 + 0))] g n fun v7 g1 n7 =>
kUn .not v7 fun v8 =>
kSplit v8 (
C sync_Once_doSlow_id [a0, a1] g1 n7 fun v11 g2 n11 =>
aRet K (.tuple #[]) g2 n11) (
aRet K (.tuple #[]) g1 n7)

theorem sync_Once_Do_eq (C : CT) (a0 a1 : Value) (g : G) (n : Nat) (K : Cont) : sync_Once_Do C a0 a1 g n K = abody Try.prog C sync_Once_Do_id [a0, a1] g n K := by kernel_rfl

/- bellows/layout.of$1 -/
def layout_of_1 (C : CT) (a0 a1 : Value) (g : G) (n : Nat) (K : Cont) : Prop :=
kPtr a0 fun l2 o2 =>
kLd g l2 o2 fun v2 =>
kPtr a1 fun l3 o3 =>
kLdN g l3 o3 9 fun c3 =>
C layout_plan_reckon_id [v2, (.agg c3.toArray)] g n fun v4 g1 n4 =>
aRet K (.tuple #[]) g1 n4

theorem layout_of_1_eq (C : CT) (a0 a1 : Value) (g : G) (n : Nat) (K : Cont) : layout_of_1 C a0 a1 g n K = abody Try.prog C layout_of_1_id [a0, a1] g n K := by kernel_rfl

/- (*bellows/layout.plan).reckon -/
def layout_plan_reckon (C : CT) (a0 a1 : Value) (g : G) (n : Nat) (K : Cont) : Prop :=
kAgg a1 fun c3 =>
kNew c3 .exact g n fun l3 g1 n3 =>
kLdN g1 l3 (0 + 0) 7 fun c6 =>
C word_Good_id [(.agg c6.toArray)] g1 n3 fun v7 g2 n7 =>
kSplit v7 (
kLd g2 l3 (0 + 7) fun v10 =>
kBin .int .geq v10 (.int .i64 1) fun v11 =>
kSplit v11 (
kLd g2 l3 (0 + 7) fun v15 =>
kBin .int .leq v15 (.int .i64 16) fun v16 =>
kSplit v16 (
kLd g2 l3 (0 + 8) fun v20 =>
kBin .int .geq v20 (.int .i64 1) fun v21 =>
kSplit v21 (
kLd g2 l3 (0 + 8) fun v25 =>
kBin .int .leq v25 (.int .i64 16) fun v26 =>
kSplit v26 (
kLd g2 l3 (0 + 0 + 1) fun v31 =>
kLd g2 l3 (0 + 0 + 2) fun v34 =>
kBin .int .sub v31 v34 fun v35 =>
kLd g2 l3 (0 + 7) fun v37 =>
kBin .int .add (.int .i64 1) v37 fun v38 =>
kLd g2 l3 (0 + 8) fun v40 =>
kBin .int .add v38 v40 fun v41 =>
kBin .int .geq v35 v41 fun v42 =>
kNil a0 fun v44 =>
kPtr v44 fun l45 o45 =>
kSt g2 l45 (o45 + 3) v42 fun g3 =>
kLd g3 l3 (0 + 0 + 2) fun v49 =>
kBin .int .add v49 (.int .i64 1) fun v50 =>
kNil a0 fun v51 =>
kPtr v51 fun l52 o52 =>
kSt g3 l52 (o52 + 4) v50 fun g4 =>
kNil a0 fun v55 =>
kPtr v55 fun l56 o56 =>
kLd g4 l56 (o56 + 4) fun v57 =>
kLd g4 l3 (0 + 7) fun v59 =>
kBin .int .add v57 v59 fun v60 =>
kNil a0 fun v61 =>
kPtr v61 fun l62 o62 =>
kSt g4 l62 (o62 + 5) v60 fun g5 =>
kLd g5 l3 (0 + 8) fun v66 =>
kLd g5 l3 (0 + 7) fun v68 =>
kBin .int .mul (.int .i64 4) v68 fun v69 =>
kNil a0 fun v70 =>
kPtr v70 fun l71 o71 =>
kSt g5 l71 (o71 + 6) v66 fun g6 =>
(kPtr (ptr l3 (0 + 7)) fun l _ => g6 l = g5 l) ∧ kNil a0 fun v72 =>
kPtr v72 fun l73 o73 =>
kSt g6 l73 (o73 + 7) v69 fun g7 =>
aRet K (.tuple #[]) g7 n7) (
kNil a0 fun v44 =>
kPtr v44 fun l45 o45 =>
kSt g2 l45 (o45 + 3) (.bool false) fun g8 =>
kLd g8 l3 (0 + 0 + 2) fun v49 =>
kBin .int .add v49 (.int .i64 1) fun v50 =>
kNil a0 fun v51 =>
kPtr v51 fun l52 o52 =>
kSt g8 l52 (o52 + 4) v50 fun g9 =>
kNil a0 fun v55 =>
kPtr v55 fun l56 o56 =>
kLd g9 l56 (o56 + 4) fun v57 =>
kLd g9 l3 (0 + 7) fun v59 =>
kBin .int .add v57 v59 fun v60 =>
kNil a0 fun v61 =>
kPtr v61 fun l62 o62 =>
kSt g9 l62 (o62 + 5) v60 fun g10 =>
kLd g10 l3 (0 + 8) fun v66 =>
kLd g10 l3 (0 + 7) fun v68 =>
kBin .int .mul (.int .i64 4) v68 fun v69 =>
kNil a0 fun v70 =>
kPtr v70 fun l71 o71 =>
kSt g10 l71 (o71 + 6) v66 fun g11 =>
(kPtr (ptr l3 (0 + 7)) fun l _ => g11 l = g10 l) ∧ kNil a0 fun v72 =>
kPtr v72 fun l73 o73 =>
kSt g11 l73 (o73 + 7) v69 fun g12 =>
aRet K (.tuple #[]) g12 n7)) (
kNil a0 fun v44 =>
kPtr v44 fun l45 o45 =>
kSt g2 l45 (o45 + 3) (.bool false) fun g13 =>
kLd g13 l3 (0 + 0 + 2) fun v49 =>
kBin .int .add v49 (.int .i64 1) fun v50 =>
kNil a0 fun v51 =>
kPtr v51 fun l52 o52 =>
kSt g13 l52 (o52 + 4) v50 fun g14 =>
kNil a0 fun v55 =>
kPtr v55 fun l56 o56 =>
kLd g14 l56 (o56 + 4) fun v57 =>
kLd g14 l3 (0 + 7) fun v59 =>
kBin .int .add v57 v59 fun v60 =>
kNil a0 fun v61 =>
kPtr v61 fun l62 o62 =>
kSt g14 l62 (o62 + 5) v60 fun g15 =>
kLd g15 l3 (0 + 8) fun v66 =>
kLd g15 l3 (0 + 7) fun v68 =>
kBin .int .mul (.int .i64 4) v68 fun v69 =>
kNil a0 fun v70 =>
kPtr v70 fun l71 o71 =>
kSt g15 l71 (o71 + 6) v66 fun g16 =>
(kPtr (ptr l3 (0 + 7)) fun l _ => g16 l = g15 l) ∧ kNil a0 fun v72 =>
kPtr v72 fun l73 o73 =>
kSt g16 l73 (o73 + 7) v69 fun g17 =>
aRet K (.tuple #[]) g17 n7)) (
kNil a0 fun v44 =>
kPtr v44 fun l45 o45 =>
kSt g2 l45 (o45 + 3) (.bool false) fun g18 =>
kLd g18 l3 (0 + 0 + 2) fun v49 =>
kBin .int .add v49 (.int .i64 1) fun v50 =>
kNil a0 fun v51 =>
kPtr v51 fun l52 o52 =>
kSt g18 l52 (o52 + 4) v50 fun g19 =>
kNil a0 fun v55 =>
kPtr v55 fun l56 o56 =>
kLd g19 l56 (o56 + 4) fun v57 =>
kLd g19 l3 (0 + 7) fun v59 =>
kBin .int .add v57 v59 fun v60 =>
kNil a0 fun v61 =>
kPtr v61 fun l62 o62 =>
kSt g19 l62 (o62 + 5) v60 fun g20 =>
kLd g20 l3 (0 + 8) fun v66 =>
kLd g20 l3 (0 + 7) fun v68 =>
kBin .int .mul (.int .i64 4) v68 fun v69 =>
kNil a0 fun v70 =>
kPtr v70 fun l71 o71 =>
kSt g20 l71 (o71 + 6) v66 fun g21 =>
(kPtr (ptr l3 (0 + 7)) fun l _ => g21 l = g20 l) ∧ kNil a0 fun v72 =>
kPtr v72 fun l73 o73 =>
kSt g21 l73 (o73 + 7) v69 fun g22 =>
aRet K (.tuple #[]) g22 n7)) (
kNil a0 fun v44 =>
kPtr v44 fun l45 o45 =>
kSt g2 l45 (o45 + 3) (.bool false) fun g23 =>
kLd g23 l3 (0 + 0 + 2) fun v49 =>
kBin .int .add v49 (.int .i64 1) fun v50 =>
kNil a0 fun v51 =>
kPtr v51 fun l52 o52 =>
kSt g23 l52 (o52 + 4) v50 fun g24 =>
kNil a0 fun v55 =>
kPtr v55 fun l56 o56 =>
kLd g24 l56 (o56 + 4) fun v57 =>
kLd g24 l3 (0 + 7) fun v59 =>
kBin .int .add v57 v59 fun v60 =>
kNil a0 fun v61 =>
kPtr v61 fun l62 o62 =>
kSt g24 l62 (o62 + 5) v60 fun g25 =>
kLd g25 l3 (0 + 8) fun v66 =>
kLd g25 l3 (0 + 7) fun v68 =>
kBin .int .mul (.int .i64 4) v68 fun v69 =>
kNil a0 fun v70 =>
kPtr v70 fun l71 o71 =>
kSt g25 l71 (o71 + 6) v66 fun g26 =>
(kPtr (ptr l3 (0 + 7)) fun l _ => g26 l = g25 l) ∧ kNil a0 fun v72 =>
kPtr v72 fun l73 o73 =>
kSt g26 l73 (o73 + 7) v69 fun g27 =>
aRet K (.tuple #[]) g27 n7)) (
kNil a0 fun v44 =>
kPtr v44 fun l45 o45 =>
kSt g2 l45 (o45 + 3) (.bool false) fun g28 =>
kLd g28 l3 (0 + 0 + 2) fun v49 =>
kBin .int .add v49 (.int .i64 1) fun v50 =>
kNil a0 fun v51 =>
kPtr v51 fun l52 o52 =>
kSt g28 l52 (o52 + 4) v50 fun g29 =>
kNil a0 fun v55 =>
kPtr v55 fun l56 o56 =>
kLd g29 l56 (o56 + 4) fun v57 =>
kLd g29 l3 (0 + 7) fun v59 =>
kBin .int .add v57 v59 fun v60 =>
kNil a0 fun v61 =>
kPtr v61 fun l62 o62 =>
kSt g29 l62 (o62 + 5) v60 fun g30 =>
kLd g30 l3 (0 + 8) fun v66 =>
kLd g30 l3 (0 + 7) fun v68 =>
kBin .int .mul (.int .i64 4) v68 fun v69 =>
kNil a0 fun v70 =>
kPtr v70 fun l71 o71 =>
kSt g30 l71 (o71 + 6) v66 fun g31 =>
(kPtr (ptr l3 (0 + 7)) fun l _ => g31 l = g30 l) ∧ kNil a0 fun v72 =>
kPtr v72 fun l73 o73 =>
kSt g31 l73 (o73 + 7) v69 fun g32 =>
aRet K (.tuple #[]) g32 n7)

theorem layout_plan_reckon_eq (C : CT) (a0 a1 : Value) (g : G) (n : Nat) (K : Cont) : layout_plan_reckon C a0 a1 g n K = abody Try.prog C layout_plan_reckon_id [a0, a1] g n K := by kernel_rfl

/- (*bellows/model.world).op -/
def model_world_op_j1 (C : CT) (K : Cont) (t : Env) (g : G) (n : Nat) : Prop :=
kPtr (t 3) fun l49 o49 =>
kLd g l49 (o49 + 1) fun v50 =>
C model_world_put_id [(t 0), v50, (t 7)] g n fun v52 g6 n52 =>
kUn .not v52 fun v53 =>
kSplit v53 (
aRet K (.bool false) g6 n52) (
C model_world_tell_id [(t 0), (t 6)] g6 n52 fun v56 g7 n56 =>
aRet K (.bool true) g7 n56)

def model_world_op (C : CT) (a0 a1 : Value) (g : G) (n : Nat) (K : Cont) : Prop :=
kAgg a1 fun c3 =>
kNew c3 .exact g n fun l3 g1 n3 =>
kLd g1 l3 (0 + 1) fun v10 =>
C model_world_get_id [a0, v10] g1 n3 fun v11 g2 n11 =>
kLd g2 l3 (0 + 0) fun v14 =>
kBin .int .eql v14 (.int .i64 1) fun v15 =>
kSplit v15 (
C model_world_tell_id [a0, v11] g2 n11 fun v18 g3 n18 =>
aRet K (.bool true) g3 n18) (
kLd g2 l3 (0 + 0) fun v21 =>
kBin .int .eql v21 (.int .i64 2) fun v22 =>
kSplit v22 (
kLd g2 l3 (0 + 1) fun v25 =>
kLd g2 l3 (0 + 2) fun v27 =>
C model_world_put_id [a0, v25, v27] g2 n11 fun v28 g4 n28 =>
aRet K v28 g4 n28) (
kLd g2 l3 (0 + 0) fun v31 =>
kBin .int .eql v31 (.int .i64 4) fun v32 =>
kSplit v32 (
kBin .int .neq v11 (.int .u64 0) fun v35 =>
kSplit v35 (
C model_world_tell_id [a0, (.int .u64 0)] g2 n11 fun v38 g5 n38 =>
aRet K (.bool true) g5 n38) (
kLd g2 l3 (0 + 2) fun v40 =>
kLd g2 l3 (0 + 0) fun v42 =>
kBin .int .eql v42 (.int .i64 3) fun v43 =>
kSplit v43 (
kBin .int .add v40 v11 fun v46 =>
model_world_op_j1 C K (puts (args0 [a0, a1]) [(3, (ptr l3 0)), (4, (.bool false)), (8, a0), (9, (ptr l3 (0 + 1))), (10, v10), (11, v11), (5, v11), (13, (ptr l3 (0 + 0))), (14, v14), (15, v15), (12, v15), (20, (ptr l3 (0 + 0))), (21, v21), (22, v22), (19, v22), (30, (ptr l3 (0 + 0))), (31, v31), (32, v32), (33, (.bool true)), (34, v11), (35, v35), (36, v35), (29, v35), (6, (.int .u64 1)), (39, (ptr l3 (0 + 2))), (40, v40), (7, v40), (41, (ptr l3 (0 + 0))), (42, v42), (43, v43), (44, v40), (45, v11), (46, v46), (7, v46), (47, v46), (6, v46)]) g2 n11) (
model_world_op_j1 C K (puts (args0 [a0, a1]) [(3, (ptr l3 0)), (4, (.bool false)), (8, a0), (9, (ptr l3 (0 + 1))), (10, v10), (11, v11), (5, v11), (13, (ptr l3 (0 + 0))), (14, v14), (15, v15), (12, v15), (20, (ptr l3 (0 + 0))), (21, v21), (22, v22), (19, v22), (30, (ptr l3 (0 + 0))), (31, v31), (32, v32), (33, (.bool true)), (34, v11), (35, v35), (36, v35), (29, v35), (6, (.int .u64 1)), (39, (ptr l3 (0 + 2))), (40, v40), (7, v40), (41, (ptr l3 (0 + 0))), (42, v42), (43, v43)]) g2 n11))) (
kLd g2 l3 (0 + 2) fun v40 =>
kLd g2 l3 (0 + 0) fun v42 =>
kBin .int .eql v42 (.int .i64 3) fun v43 =>
kSplit v43 (
kBin .int .add v40 v11 fun v46 =>
model_world_op_j1 C K (puts (args0 [a0, a1]) [(3, (ptr l3 0)), (4, (.bool false)), (8, a0), (9, (ptr l3 (0 + 1))), (10, v10), (11, v11), (5, v11), (13, (ptr l3 (0 + 0))), (14, v14), (15, v15), (12, v15), (20, (ptr l3 (0 + 0))), (21, v21), (22, v22), (19, v22), (30, (ptr l3 (0 + 0))), (31, v31), (32, v32), (33, (.bool false)), (34, undef), (35, undef), (36, (.bool false)), (29, (.bool false)), (6, (.int .u64 1)), (39, (ptr l3 (0 + 2))), (40, v40), (7, v40), (41, (ptr l3 (0 + 0))), (42, v42), (43, v43), (44, v40), (45, v11), (46, v46), (7, v46), (47, v46), (6, v46)]) g2 n11) (
model_world_op_j1 C K (puts (args0 [a0, a1]) [(3, (ptr l3 0)), (4, (.bool false)), (8, a0), (9, (ptr l3 (0 + 1))), (10, v10), (11, v11), (5, v11), (13, (ptr l3 (0 + 0))), (14, v14), (15, v15), (12, v15), (20, (ptr l3 (0 + 0))), (21, v21), (22, v22), (19, v22), (30, (ptr l3 (0 + 0))), (31, v31), (32, v32), (33, (.bool false)), (34, undef), (35, undef), (36, (.bool false)), (29, (.bool false)), (6, (.int .u64 1)), (39, (ptr l3 (0 + 2))), (40, v40), (7, v40), (41, (ptr l3 (0 + 0))), (42, v42), (43, v43)]) g2 n11))))

theorem model_world_op_eq (C : CT) (a0 a1 : Value) (g : G) (n : Nat) (K : Cont) : model_world_op C a0 a1 g n K = abody Try.prog C model_world_op_id [a0, a1] g n K := by kernel_rfl

/- slices.IndexFunc[[][]uint64,[]uint64] -/
def slices_IndexFunc_uint64_uint64_l1 (C : CT) (K : Cont) (I_l1 : ECont) (t : Env) (g : G) (n : Nat) : Prop :=
kBin .int .lss (t 8) (t 7) fun v9 =>
kSplit v9 (
kIndexAddr (t 0) (t 8) 1 fun v14 =>
kPtr v14 fun l15 o15 =>
kLd g l15 o15 fun v15 =>
kCall C (t 1) [v15] g n fun v16 g1 n16 =>
kSplit v16 (
aRet K (t 8) g1 n16) (
kBin .int .add (t 8) (.int .i64 1) fun v18 =>
I_l1 (puts t [(9, v9), (10, (t 8)), (5, (t 8)), (11, (t 1)), (12, (t 0)), (13, (t 8)), (14, v14), (15, v15), (16, v16), (18, v18), (8, v18)]) g1 n16)) (
aRet K (.int .i64 (-1)) g n)

def slices_IndexFunc_uint64_uint64 (C : CT) (a0 a1 : Value) (g : G) (n : Nat) (K : Cont) : Prop :=
kLen a0 fun v7 =>
lfp (slices_IndexFunc_uint64_uint64_l1 C K) (puts (args0 [a0, a1]) [(4, (.int .i64 0)), (6, a0), (7, v7), (8, (.int .i64 0))]) g n

theorem slices_IndexFunc_uint64_uint64_eq (C : CT) (a0 a1 : Value) (g : G) (n : Nat) (K : Cont) : slices_IndexFunc_uint64_uint64 C a0 a1 g n K = abody Try.prog C slices_IndexFunc_uint64_uint64_id [a0, a1] g n K := by kernel_rfl

/- (*sync/atomic.Bool).Load -/
def sync_atomic_Bool_Load (C : CT) (a0 : Value) (g : G) (n : Nat) (K : Cont) : Prop :=
kNil a0 fun v4 =>
kPtr v4 fun l5 o5 =>
C sync_atomic_LoadUint32_id [(ptr l5 (o5 + 0))] g n fun v6 g1 n6 =>
kBin .int .neq v6 (.int .u32 0) fun v7 =>
aRet K v7 g1 n6

theorem sync_atomic_Bool_Load_eq (C : CT) (a0 : Value) (g : G) (n : Nat) (K : Cont) : sync_atomic_Bool_Load C a0 g n K = abody Try.prog C sync_atomic_Bool_Load_id [a0] g n K := by kernel_rfl

/- bellows/word.Good -/
def word_Good (C : CT) (a0 : Value) (g : G) (n : Nat) (K : Cont) : Prop :=
kAgg a0 fun c1 =>
kNew c1 .exact g n fun l1 g1 n1 =>
kLd g1 l1 (0 + 3) fun v5 =>
kBin .int .eql v5 (.int .i64 1) fun v6 =>
kSplit v6 (
kLd g1 l1 (0 + 0) fun v23 =>
C word_between_id [v23, (.int .i64 1), (.int .i64 8)] g1 n1 fun v24 g2 n24 =>
kSplit v24 (
kLd g2 l1 (0 + 1) fun v27 =>
C word_between_id [v27, (.int .i64 2), (.int .i64 64)] g2 n24 fun v28 g3 n28 =>
kSplit v28 (
kLd g3 l1 (0 + 2) fun v32 =>
kLd g3 l1 (0 + 1) fun v34 =>
kBin .int .sub v34 (.int .i64 1) fun v35 =>
C word_between_id [v32, (.int .i64 1), v35] g3 n28 fun v36 g4 n36 =>
kSplit v36 (
kLd g4 l1 (0 + 4) fun v43 =>
C word_between_id [v43, (.int .i64 1), (.int .i64 8)] g4 n36 fun v44 g5 n44 =>
kSplit v44 (
kLd g5 l1 (0 + 5) fun v48 =>
C word_between_id [v48, (.int .i64 1), (.int .i64 16)] g5 n44 fun v49 g6 n49 =>
kSplit v49 (
kLd g6 l1 (0 + 6) fun v53 =>
C word_between_id [v53, (.int .i64 1), (.int .i64 16)] g6 n49 fun v54 g7 n54 =>
aRet K v54 g7 n54) (
aRet K (.bool false) g6 n49)) (
aRet K (.bool false) g5 n44)) (
aRet K (.bool false) g4 n36)) (
aRet K (.bool false) g3 n28)) (
aRet K (.bool false) g2 n24)) (
kLd g1 l1 (0 + 3) fun v9 =>
kBin .int .eql v9 (.int .i64 2) fun v10 =>
kSplit v10 (
kLd g1 l1 (0 + 0) fun v23 =>
C word_between_id [v23, (.int .i64 1), (.int .i64 8)] g1 n1 fun v24 g8 n24 =>
kSplit v24 (
kLd g8 l1 (0 + 1) fun v27 =>
C word_between_id [v27, (.int .i64 2), (.int .i64 64)] g8 n24 fun v28 g9 n28 =>
kSplit v28 (
kLd g9 l1 (0 + 2) fun v32 =>
kLd g9 l1 (0 + 1) fun v34 =>
kBin .int .sub v34 (.int .i64 1) fun v35 =>
C word_between_id [v32, (.int .i64 1), v35] g9 n28 fun v36 g10 n36 =>
kSplit v36 (
kLd g10 l1 (0 + 4) fun v43 =>
C word_between_id [v43, (.int .i64 1), (.int .i64 8)] g10 n36 fun v44 g11 n44 =>
kSplit v44 (
kLd g11 l1 (0 + 5) fun v48 =>
C word_between_id [v48, (.int .i64 1), (.int .i64 16)] g11 n44 fun v49 g12 n49 =>
kSplit v49 (
kLd g12 l1 (0 + 6) fun v53 =>
C word_between_id [v53, (.int .i64 1), (.int .i64 16)] g12 n49 fun v54 g13 n54 =>
aRet K v54 g13 n54) (
aRet K (.bool false) g12 n49)) (
aRet K (.bool false) g11 n44)) (
aRet K (.bool false) g10 n36)) (
aRet K (.bool false) g9 n28)) (
aRet K (.bool false) g8 n24)) (
kLd g1 l1 (0 + 3) fun v14 =>
kBin .int .eql v14 (.int .i64 4) fun v15 =>
kSplit v15 (
kLd g1 l1 (0 + 0) fun v23 =>
C word_between_id [v23, (.int .i64 1), (.int .i64 8)] g1 n1 fun v24 g14 n24 =>
kSplit v24 (
kLd g14 l1 (0 + 1) fun v27 =>
C word_between_id [v27, (.int .i64 2), (.int .i64 64)] g14 n24 fun v28 g15 n28 =>
kSplit v28 (
kLd g15 l1 (0 + 2) fun v32 =>
kLd g15 l1 (0 + 1) fun v34 =>
kBin .int .sub v34 (.int .i64 1) fun v35 =>
C word_between_id [v32, (.int .i64 1), v35] g15 n28 fun v36 g16 n36 =>
kSplit v36 (
kLd g16 l1 (0 + 4) fun v43 =>
C word_between_id [v43, (.int .i64 1), (.int .i64 8)] g16 n36 fun v44 g17 n44 =>
kSplit v44 (
kLd g17 l1 (0 + 5) fun v48 =>
C word_between_id [v48, (.int .i64 1), (.int .i64 16)] g17 n44 fun v49 g18 n49 =>
kSplit v49 (
kLd g18 l1 (0 + 6) fun v53 =>
C word_between_id [v53, (.int .i64 1), (.int .i64 16)] g18 n49 fun v54 g19 n54 =>
aRet K v54 g19 n54) (
aRet K (.bool false) g18 n49)) (
aRet K (.bool false) g17 n44)) (
aRet K (.bool false) g16 n36)) (
aRet K (.bool false) g15 n28)) (
aRet K (.bool false) g14 n24)) (
kLd g1 l1 (0 + 3) fun v19 =>
kBin .int .eql v19 (.int .i64 8) fun v20 =>
kLd g1 l1 (0 + 0) fun v23 =>
C word_between_id [v23, (.int .i64 1), (.int .i64 8)] g1 n1 fun v24 g20 n24 =>
kSplit v24 (
kLd g20 l1 (0 + 1) fun v27 =>
C word_between_id [v27, (.int .i64 2), (.int .i64 64)] g20 n24 fun v28 g21 n28 =>
kSplit v28 (
kLd g21 l1 (0 + 2) fun v32 =>
kLd g21 l1 (0 + 1) fun v34 =>
kBin .int .sub v34 (.int .i64 1) fun v35 =>
C word_between_id [v32, (.int .i64 1), v35] g21 n28 fun v36 g22 n36 =>
kSplit v36 (
kSplit v20 (
kLd g22 l1 (0 + 4) fun v43 =>
C word_between_id [v43, (.int .i64 1), (.int .i64 8)] g22 n36 fun v44 g23 n44 =>
kSplit v44 (
kLd g23 l1 (0 + 5) fun v48 =>
C word_between_id [v48, (.int .i64 1), (.int .i64 16)] g23 n44 fun v49 g24 n49 =>
kSplit v49 (
kLd g24 l1 (0 + 6) fun v53 =>
C word_between_id [v53, (.int .i64 1), (.int .i64 16)] g24 n49 fun v54 g25 n54 =>
aRet K v54 g25 n54) (
aRet K (.bool false) g24 n49)) (
aRet K (.bool false) g23 n44)) (
aRet K (.bool false) g22 n36)) (
aRet K (.bool false) g22 n36)) (
aRet K (.bool false) g21 n28)) (
aRet K (.bool false) g20 n24))))

theorem word_Good_eq (C : CT) (a0 : Value) (g : G) (n : Nat) (K : Cont) : word_Good C a0 g n K = abody Try.prog C word_Good_id [a0] g n K := by kernel_rfl

/- (*bellows/model.world).get -/
def model_world_get (C : CT) (a0 a1 : Value) (g : G) (n : Nat) (K : Cont) : Prop :=
kNil a0 fun v9 =>
kPtr v9 fun l10 o10 =>
kLd g l10 (o10 + 2) fun v11 =>
kLookup .i64 v11 a1 (.int .u64 0) true g fun v13 =>
kExtract v13 0 fun v14 =>
kExtract v13 1 fun v15 =>
kSplit v15 (
aRet K v14 g n) (
kNil a0 fun v19 =>
kPtr v19 fun l20 o20 =>
kLd g l20 (o20 + 0) fun v21 =>
kIndexAddr v21 a1 1 fun v23 =>
kPtr v23 fun l24 o24 =>
kLd g l24 o24 fun v24 =>
aRet K v24 g n)

theorem model_world_get_eq (C : CT) (a0 a1 : Value) (g : G) (n : Nat) (K : Cont) : model_world_get C a0 a1 g n K = abody Try.prog C model_world_get_id [a0, a1] g n K := by kernel_rfl

/- (*bellows/model.world).put -/
def model_world_put (C : CT) (a0 a1 a2 : Value) (g : G) (n : Nat) (K : Cont) : Prop :=
kNil a0 fun v8 =>
kPtr v8 fun l9 o9 =>
kLd g l9 (o9 + 3) fun v10 =>
kNil a0 fun v12 =>
kPtr v12 fun l13 o13 =>
kLd g l13 (o13 + 1) fun v14 =>
kBin .int .geq v10 v14 fun v15 =>
kSplit v15 (
aRet K (.bool false) g n) (
kNil a0 fun v17 =>
kPtr v17 fun l18 o18 =>
kLd g l18 (o18 + 3) fun v19 =>
kBin .int .add v19 (.int .i64 1) fun v20 =>
kNil a0 fun v21 =>
kPtr v21 fun l22 o22 =>
kSt g l22 (o22 + 3) v20 fun g1 =>
kNil a0 fun v24 =>
kPtr v24 fun l25 o25 =>
kLd g1 l25 (o25 + 2) fun v26 =>
kMapSet .i64 v26 a1 a2 g1 fun g2 =>
aRet K (.bool true) g2 n)

theorem model_world_put_eq (C : CT) (a0 a1 a2 : Value) (g : G) (n : Nat) (K : Cont) : model_world_put C a0 a1 a2 g n K = abody Try.prog C model_world_put_id [a0, a1, a2] g n K := by kernel_rfl

/- bellows/word.between -/
def word_between (C : CT) (a0 a1 a2 : Value) (g : G) (n : Nat) (K : Cont) : Prop :=
kBin .int .geq a0 a1 fun v9 =>
kSplit v9 (
kBin .int .leq a0 a2 fun v13 =>
aRet K v13 g n) (
aRet K (.bool false) g n)

theorem word_between_eq (C : CT) (a0 a1 a2 : Value) (g : G) (n : Nat) (K : Cont) : word_between C a0 a1 a2 g n K = abody Try.prog C word_between_id [a0, a1, a2] g n K := by kernel_rfl

end Go.Proofs.Ytldlimkjhppjbaa.Gen
