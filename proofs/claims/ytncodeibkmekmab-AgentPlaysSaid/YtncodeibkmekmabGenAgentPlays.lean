import Derived.Test.YtncodeibkmekmabProg
import Derived.KernelRfl
import Derived.Test.YtncodeibkmekmabAbsC
/- What the machine comes to on each function, printed by program; each equation is checked by the kernel. -/
set_option linter.all false
set_option linter.deprecated false
namespace Go.Proofs.Ytncodeibkmekmab.Gen
open Go Go.Proofs.Ytncodeibkmekmab.Abs

def bellowslaw08_AgentUps_id : FuncId := 3
def bellowslaw08_AgentRoom_id : FuncId := 4
def bellowslaw08_AgentWaits_id : FuncId := 5
def bellowslaw08_AgentPlays_id : FuncId := 6
def bellowslaw08_AgentOne_id : FuncId := 7
def bellowslaw08_AgentTells_id : FuncId := 8
def agent_New_id : FuncId := 11
def agent_Agent_Load_id : FuncId := 12
def agent_Agent_Hear_id : FuncId := 13
def agent_Agent_Store_id : FuncId := 14
def agent_Agent_Owns_id : FuncId := 15
def bellowslaw08_wakes_id : FuncId := 16
def agent_Agent_Slots_id : FuncId := 17
def agent_Agent_Evict_id : FuncId := 18
def agent_Agent_Idle_id : FuncId := 19
def agent_Agent_Reach_id : FuncId := 20
def bellowsref08_New_id : FuncId := 21
def bellowsref08_Agent_Load_id : FuncId := 22
def bellowskeep_Msgs_id : FuncId := 23
def bellowsref08_Agent_Store_id : FuncId := 24
def bellowsref08_Agent_Hear_id : FuncId := 25
def bellowsref08_Agent_Evict_id : FuncId := 26
def bellowsref08_Agent_Reach_id : FuncId := 27
def bellowslaw05_Same_id : FuncId := 28
def bellowsref05_Array_Slots_id : FuncId := 29
def bellowsref08_Agent_Idle_id : FuncId := 30
def bellowsref08_Agent_Owns_id : FuncId := 31
def array_New_id : FuncId := 40
def agent_is_id : FuncId := 41
def agent_Agent_find_id : FuncId := 42
def array_Array_Touch_id : FuncId := 43
def agent_Agent_ask_id : FuncId := 44
def msg_Good_id : FuncId := 45
def msg_Tells_id : FuncId := 46
def agent_turns_id : FuncId := 47
def array_Array_Drop_id : FuncId := 48
def agent_answer_id : FuncId := 49
def array_Array_Set_id : FuncId := 50
def array_Array_Slots_id : FuncId := 51
def agent_Agent_out_id : FuncId := 52
def slices_ContainsFunc_array_Slot_array_Slot_id : FuncId := 53
def agent_Agent_Idle_1_id : FuncId := 54
def agent_rests_id : FuncId := 55
def bellowsref05_New_id : FuncId := 56
def bellowsref08_there_id : FuncId := 57
def bellowsref08_Agent_Slot_id : FuncId := 58
def bellowsref05_Array_Touch_id : FuncId := 59
def bellowsref08_Agent_miss_id : FuncId := 60
def bellowsref05_Array_Set_id : FuncId := 61
def bellowsref06_Good_id : FuncId := 62
def bellowsref06_Tells_id : FuncId := 63
def bellowsref05_Array_Drop_id : FuncId := 64
def bellowsref08_Agent_lose_id : FuncId := 65
def bellowsref08_Agent_share_id : FuncId := 66
def bellowsref08_Agent_out_id : FuncId := 67
def bellowsref08_one_id : FuncId := 68
def array_Array_Find_id : FuncId := 83
def array_Array_at_id : FuncId := 84
def array_Array_number_id : FuncId := 85
def array_Array_set_id : FuncId := 86
def array_Array_Room_id : FuncId := 87
def msg_may_id : FuncId := 88
def slices_IndexFunc_array_Slot_array_Slot_id : FuncId := 89
def array_empty_id : FuncId := 90
def slices_DeleteFunc_array_Slot_array_Slot_id : FuncId := 91
def slices_Clone_array_Slot_array_Slot_id : FuncId := 92
def bellowsref05_Array_At_id : FuncId := 93
def bellowsref05_Array_Free_id : FuncId := 94
def bellowsref05_Array_Victim_id : FuncId := 95
def bellowsref06_Asks_id : FuncId := 96
def bellowsref06_Answers_id : FuncId := 97
def bellowsref08_words_id : FuncId := 98
def array_Array_at_1_id : FuncId := 102
def geom_Set_id : FuncId := 103
def bellowsref05_Array_first_id : FuncId := 104
def bellowsref05_rest_id : FuncId := 105
def bellowsref04_Set_id : FuncId := 113

/- bellows/bellowslaw08.AgentUps -/
def bellowslaw08_AgentUps (C : CT) (a0 a1 a2 : Value) (g : G) (n : Nat) (K : Cont) : Prop :=
kAgg a0 fun c3 =>
kNew c3 .exact g n fun l3 g1 n3 =>
kAgg a1 fun c4 =>
kNew c4 .exact g1 n3 fun l4 g2 n4 =>
C agent_New_id [(.int .i64 1), (.int .i64 2)] g2 n4 fun v30 g3 n30 =>
kExtract v30 0 fun v31 =>
kExtract v30 1 fun v32 =>
kConv .i64 a2 fun v34 =>
kBin .int .rem v34 (.int .i64 8) fun v35 =>
kBin .int .neq v32 (.int .i64 0) fun v37 =>
kSplit v37 (
aRet K (.bool false) g3 n30) (
kBin .ptr .eql v31 (.pointer none) fun v40 =>
kSplit v40 (
aRet K (.bool false) g3 n30) (
C agent_Agent_Load_id [v31, (.int .i64 3), v35] g3 n30 fun v44 g4 n44 =>
kLdN g4 l3 0 8 fun c47 =>
kFill [(.int .i64 0), (.int .i64 0), (.bool false), (.bool false), (.int .u64 0), (.int .u64 0), (.int .u64 0), (.int .u64 0), (.int .u64 0), (.int .u64 0), (.int .u64 0), (.int .u64 0)] [(0, none, (.int .i64 8)), (1, none, (.int .i64 3)), (4, (some 8), (.agg c47.toArray))] fun c48 =>
C agent_Agent_Hear_id [v31, (.agg c48.toArray)] g4 n44 fun v49 g5 n49 =>
kExtract v49 0 fun v50 =>
kExtract v49 1 fun v51 =>
kBin .int .neq v51 (.int .i64 0) fun v53 =>
kSplit v53 (
aRet K (.bool false) g5 n49) (
C agent_Agent_Store_id [v31, (.int .i64 3), v35, (.int .u64 77)] g5 n49 fun v57 g6 n57 =>
kExtract v57 0 fun v58 =>
kExtract v57 1 fun v59 =>
kSplit v58 (
aRet K (.bool false) g6 n57) (
kLen v59 fun v63 =>
kBin .int .neq v63 (.int .i64 1) fun v64 =>
kSplit v64 (
aRet K (.bool false) g6 n57) (
kIndexAddr v59 (.int .i64 0) 12 fun v68 =>
kPtr v68 fun l69 o69 =>
kLd g6 l69 (o69 + 0) fun v70 =>
kBin .int .neq v70 (.int .i64 2) fun v71 =>
kSplit v71 (
aRet K (.bool false) g6 n57) (
C agent_Agent_Load_id [v31, (.int .i64 3), v35] g6 n57 fun v76 g7 n76 =>
kExtract v76 0 fun v77 =>
kExtract v76 1 fun v78 =>
kExtract v76 2 fun v79 =>
kUn .not v78 fun v81 =>
kSplit v81 (
aRet K (.bool false) g7 n76) (
kIndexArr (ptr l3 0) v35 8 1 fun v85 =>
kPtr v85 fun l86 o86 =>
kLd g7 l86 o86 fun v86 =>
kBin .int .neq v77 v86 fun v87 =>
kSplit v87 (
aRet K (.bool false) g7 n76) (
kFill [(.int .i64 0), (.int .i64 0), (.bool false), (.bool false), (.int .u64 0), (.int .u64 0), (.int .u64 0), (.int .u64 0), (.int .u64 0), (.int .u64 0), (.int .u64 0), (.int .u64 0)] [(0, none, (.int .i64 12)), (1, none, (.int .i64 3))] fun c91 =>
C agent_Agent_Hear_id [v31, (.agg c91.toArray)] g7 n76 fun v92 g8 n92 =>
kExtract v92 0 fun v93 =>
kExtract v92 1 fun v94 =>
kBin .int .neq v94 (.int .i64 0) fun v96 =>
kSplit v96 (
aRet K (.bool false) g8 n92) (
kLen v93 fun v99 =>
kBin .int .neq v99 (.int .i64 1) fun v100 =>
kSplit v100 (
aRet K (.bool false) g8 n92) (
kIndexAddr v93 (.int .i64 0) 12 fun v104 =>
kPtr v104 fun l105 o105 =>
kLd g8 l105 (o105 + 2) fun v106 =>
kSplit v106 (
aRet K (.bool false) g8 n92) (
C agent_Agent_Load_id [v31, (.int .i64 3), v35] g8 n92 fun v111 g9 n111 =>
kExtract v111 0 fun v112 =>
kExtract v111 1 fun v113 =>
kExtract v111 2 fun v114 =>
kSplit v113 (
aRet K (.bool false) g9 n111) (
kLen v114 fun v118 =>
kBin .int .neq v118 (.int .i64 0) fun v119 =>
kSplit v119 (
aRet K (.bool false) g9 n111) (
kLdN g9 l4 0 8 fun c123 =>
kFill [(.int .i64 0), (.int .i64 0), (.bool false), (.bool false), (.int .u64 0), (.int .u64 0), (.int .u64 0), (.int .u64 0), (.int .u64 0), (.int .u64 0), (.int .u64 0), (.int .u64 0)] [(0, none, (.int .i64 10)), (1, none, (.int .i64 3)), (4, (some 8), (.agg c123.toArray))] fun c124 =>
C agent_Agent_Hear_id [v31, (.agg c124.toArray)] g9 n111 fun v125 g10 n125 =>
kExtract v125 0 fun v126 =>
kExtract v125 1 fun v127 =>
kBin .int .neq v127 (.int .i64 0) fun v129 =>
kSplit v129 (
aRet K (.bool false) g10 n125) (
C agent_Agent_Load_id [v31, (.int .i64 3), v35] g10 n125 fun v133 g11 n133 =>
kExtract v133 0 fun v134 =>
kExtract v133 1 fun v135 =>
kExtract v133 2 fun v136 =>
C agent_Agent_Store_id [v31, (.int .i64 3), v35, (.int .u64 77)] g11 n133 fun v140 g12 n140 =>
kExtract v140 0 fun v141 =>
kExtract v140 1 fun v142 =>
kSplit v135 (
kIndexArr (ptr l4 0) v35 8 1 fun v147 =>
kPtr v147 fun l148 o148 =>
kLd g12 l148 o148 fun v148 =>
kBin .int .eql v134 v148 fun v149 =>
kSplit v149 (
kSplit v141 (
C agent_Agent_Owns_id [v31, (.int .i64 3)] g12 n140 fun v156 g13 n156 =>
kSplit v156 (
C bellowslaw08_wakes_id [] g13 n156 fun v159 g14 n159 =>
aRet K v159 g14 n159) (
aRet K (.bool false) g13 n156)) (
aRet K (.bool false) g12 n140)) (
aRet K (.bool false) g12 n140)) (
aRet K (.bool false) g12 n140)))))))))))))))

theorem bellowslaw08_AgentUps_eq (C : CT) (a0 a1 a2 : Value) (g : G) (n : Nat) (K : Cont) : bellowslaw08_AgentUps C a0 a1 a2 g n K = abody Try.prog C bellowslaw08_AgentUps_id [a0, a1, a2] g n K := by kernel_rfl

/- bellows/bellowslaw08.AgentRoom -/
def bellowslaw08_AgentRoom_j2 (C : CT) (K : Cont) (I_l1 : ECont) (t : Env) (g : G) (n : Nat) : Prop :=
kBin .int .add (t 7) (.int .i64 1) fun v36 =>
I_l1 (puts t [(35, (t 7)), (36, v36), (7, v36)]) g n

def bellowslaw08_AgentRoom_j4 (C : CT) (K : Cont) (t : Env) (g : G) (n : Nat) : Prop :=
C agent_Agent_Load_id [(t 5), (.int .i64 5), (.int .i64 0)] g n fun v70 g7 n70 =>
kExtract v70 0 fun v71 =>
kExtract v70 1 fun v72 =>
kExtract v70 2 fun v73 =>
kSplit v72 (
aRet K (.bool false) g7 n70) (
kLen v73 fun v77 =>
kBin .int .neq v77 (.int .i64 1) fun v78 =>
kSplit v78 (
aRet K (.bool false) g7 n70) (
kIndexAddr v73 (.int .i64 0) 12 fun v82 =>
kPtr v82 fun l83 o83 =>
kLd g7 l83 (o83 + 0) fun v84 =>
kBin .int .neq v84 (.int .i64 3) fun v85 =>
kSplit v85 (
aRet K (.bool false) g7 n70) (
kIndexAddr v73 (.int .i64 0) 12 fun v89 =>
kPtr v89 fun l90 o90 =>
kLd g7 l90 (o90 + 1) fun v91 =>
kBin .int .neq v91 (.int .i64 0) fun v92 =>
kSplit v92 (
aRet K (.bool false) g7 n70) (
kIndexAddr v73 (.int .i64 0) 12 fun v96 =>
kPtr v96 fun l97 o97 =>
kLd g7 l97 (o97 + 2) fun v98 =>
kBin .bool .neq v98 (t 1) fun v100 =>
kSplit v100 (
aRet K (.bool false) g7 n70) (
kSplit (t 1) (
kIndexAddr v73 (.int .i64 0) 12 fun v106 =>
kPtr v106 fun l107 o107 =>
kIndexArr (ptr l107 (o107 + 4)) (.int .i64 0) 8 1 fun v108 =>
kPtr v108 fun l109 o109 =>
kLd g7 l109 o109 fun v109 =>
kBin .int .neq v109 (t 0) fun v111 =>
kSplit v111 (
aRet K (.bool false) g7 n70) (
C agent_Agent_Load_id [(t 5), (.int .i64 5), (.int .i64 0)] g7 n70 fun v116 g8 n116 =>
kExtract v116 0 fun v117 =>
kExtract v116 1 fun v118 =>
kExtract v116 2 fun v119 =>
kSplit v118 (
aRet K (.bool false) g8 n116) (
kLen v119 fun v123 =>
kBin .int .neq v123 (.int .i64 0) fun v124 =>
kSplit v124 (
aRet K (.bool false) g8 n116) (
kFill [(.int .i64 0), (.int .i64 0), (.bool false), (.bool false), (.int .u64 0), (.int .u64 0), (.int .u64 0), (.int .u64 0), (.int .u64 0), (.int .u64 0), (.int .u64 0), (.int .u64 0)] [(0, none, (.int .i64 11)), (1, none, (.int .i64 0))] fun c128 =>
C agent_Agent_Hear_id [(t 5), (.agg c128.toArray)] g8 n116 fun v129 g9 n129 =>
kExtract v129 0 fun v130 =>
kExtract v129 1 fun v131 =>
kBin .int .neq v131 (.int .i64 0) fun v133 =>
kSplit v133 (
aRet K (.bool false) g9 n129) (
C agent_Agent_Load_id [(t 5), (.int .i64 5), (.int .i64 0)] g9 n129 fun v136 g10 n136 =>
kExtract v136 0 fun v137 =>
kExtract v136 1 fun v138 =>
kExtract v136 2 fun v139 =>
kLen v139 fun v141 =>
kBin .int .eql v141 (.int .i64 1) fun v142 =>
kSplit v142 (
kIndexAddr v139 (.int .i64 0) 12 fun v145 =>
kPtr v145 fun l146 o146 =>
kLd g10 l146 (o146 + 0) fun v147 =>
kBin .int .eql v147 (.int .i64 1) fun v148 =>
kSplit v148 (
kIndexAddr v139 (.int .i64 0) 12 fun v152 =>
kPtr v152 fun l153 o153 =>
kLd g10 l153 (o153 + 1) fun v154 =>
kBin .int .eql v154 (.int .i64 5) fun v155 =>
kSplit v155 (
C agent_Agent_Slots_id [(t 5)] g10 n136 fun v159 g11 n159 =>
kLen v159 fun v160 =>
kBin .int .eql v160 (.int .i64 2) fun v161 =>
kSplit v161 (
C bellowslaw08_wakes_id [] g11 n159 fun v164 g12 n164 =>
aRet K v164 g12 n164) (
aRet K (.bool false) g11 n159)) (
aRet K (.bool false) g10 n136)) (
aRet K (.bool false) g10 n136)) (
aRet K (.bool false) g10 n136)))))) (
C agent_Agent_Load_id [(t 5), (.int .i64 5), (.int .i64 0)] g7 n70 fun v116 g13 n116 =>
kExtract v116 0 fun v117 =>
kExtract v116 1 fun v118 =>
kExtract v116 2 fun v119 =>
kSplit v118 (
aRet K (.bool false) g13 n116) (
kLen v119 fun v123 =>
kBin .int .neq v123 (.int .i64 0) fun v124 =>
kSplit v124 (
aRet K (.bool false) g13 n116) (
kFill [(.int .i64 0), (.int .i64 0), (.bool false), (.bool false), (.int .u64 0), (.int .u64 0), (.int .u64 0), (.int .u64 0), (.int .u64 0), (.int .u64 0), (.int .u64 0), (.int .u64 0)] [(0, none, (.int .i64 11)), (1, none, (.int .i64 0))] fun c128 =>
C agent_Agent_Hear_id [(t 5), (.agg c128.toArray)] g13 n116 fun v129 g14 n129 =>
kExtract v129 0 fun v130 =>
kExtract v129 1 fun v131 =>
kBin .int .neq v131 (.int .i64 0) fun v133 =>
kSplit v133 (
aRet K (.bool false) g14 n129) (
C agent_Agent_Load_id [(t 5), (.int .i64 5), (.int .i64 0)] g14 n129 fun v136 g15 n136 =>
kExtract v136 0 fun v137 =>
kExtract v136 1 fun v138 =>
kExtract v136 2 fun v139 =>
kLen v139 fun v141 =>
kBin .int .eql v141 (.int .i64 1) fun v142 =>
kSplit v142 (
kIndexAddr v139 (.int .i64 0) 12 fun v145 =>
kPtr v145 fun l146 o146 =>
kLd g15 l146 (o146 + 0) fun v147 =>
kBin .int .eql v147 (.int .i64 1) fun v148 =>
kSplit v148 (
kIndexAddr v139 (.int .i64 0) 12 fun v152 =>
kPtr v152 fun l153 o153 =>
kLd g15 l153 (o153 + 1) fun v154 =>
kBin .int .eql v154 (.int .i64 5) fun v155 =>
kSplit v155 (
C agent_Agent_Slots_id [(t 5)] g15 n136 fun v159 g16 n159 =>
kLen v159 fun v160 =>
kBin .int .eql v160 (.int .i64 2) fun v161 =>
kSplit v161 (
C bellowslaw08_wakes_id [] g16 n159 fun v164 g17 n164 =>
aRet K v164 g17 n164) (
aRet K (.bool false) g16 n159)) (
aRet K (.bool false) g15 n136)) (
aRet K (.bool false) g15 n136)) (
aRet K (.bool false) g15 n136))))))))))

def bellowslaw08_AgentRoom_j3 (C : CT) (K : Cont) (t : Env) (g : G) (n : Nat) : Prop :=
kUn .not (t 1) fun v65 =>
kSplit v65 (
C agent_Agent_Load_id [(t 5), (.int .i64 1), (.int .i64 0)] g n fun v67 g6 n67 =>
bellowslaw08_AgentRoom_j4 C K (puts t [(64, (t 1)), (65, v65), (66, (t 5)), (67, v67)]) g6 n67) (
bellowslaw08_AgentRoom_j4 C K (puts t [(64, (t 1)), (65, v65)]) g n)

def bellowslaw08_AgentRoom_l1 (C : CT) (K : Cont) (I_l1 : ECont) (t : Env) (g : G) (n : Nat) : Prop :=
kBin .int .lss (t 7) (.int .i64 2) fun v34 =>
kSplit v34 (
C agent_Agent_Store_id [(t 5), (t 7), (.int .i64 0), (t 0)] g n fun v40 g2 n40 =>
kFill [(.int .i64 0), (.int .i64 0), (.bool false), (.bool false), (.int .u64 0), (.int .u64 0), (.int .u64 0), (.int .u64 0), (.int .u64 0), (.int .u64 0), (.int .u64 0), (.int .u64 0)] [(0, none, (.int .i64 10)), (1, none, (t 7))] fun c44 =>
C agent_Agent_Hear_id [(t 5), (.agg c44.toArray)] g2 n40 fun v45 g3 n45 =>
kExtract v45 0 fun v46 =>
kExtract v45 1 fun v47 =>
kBin .int .neq v47 (.int .i64 0) fun v49 =>
kSplit v49 (
aRet K (.bool false) g3 n45) (
kSplit (t 1) (
C agent_Agent_Store_id [(t 5), (t 7), (.int .i64 0), (t 0)] g3 n45 fun v59 g4 n59 =>
kExtract v59 0 fun v60 =>
kExtract v59 1 fun v61 =>
kUn .not v60 fun v63 =>
kSplit v63 (
aRet K (.bool false) g4 n59) (
bellowslaw08_AgentRoom_j2 C K I_l1 (puts t [(33, (t 7)), (34, v34), (37, (t 5)), (38, (t 7)), (39, (t 0)), (40, v40), (42, (t 5)), (43, (t 7)), (44, (.agg c44.toArray)), (45, v45), (41, v45), (46, v46), (47, v47), (8, v46), (9, v47), (48, v47), (49, v49), (50, (t 1)), (51, (.bool true)), (52, undef), (53, undef), (54, (.bool true)), (56, (t 5)), (57, (t 7)), (58, (t 0)), (59, v59), (55, v59), (60, v60), (61, v61), (10, v60), (11, v61), (62, v60), (63, v63)]) g4 n59)) (
kBin .int .eql (t 7) (.int .i64 1) fun v53 =>
kSplit v53 (
C agent_Agent_Store_id [(t 5), (t 7), (.int .i64 0), (t 0)] g3 n45 fun v59 g5 n59 =>
kExtract v59 0 fun v60 =>
kExtract v59 1 fun v61 =>
kUn .not v60 fun v63 =>
kSplit v63 (
aRet K (.bool false) g5 n59) (
bellowslaw08_AgentRoom_j2 C K I_l1 (puts t [(33, (t 7)), (34, v34), (37, (t 5)), (38, (t 7)), (39, (t 0)), (40, v40), (42, (t 5)), (43, (t 7)), (44, (.agg c44.toArray)), (45, v45), (41, v45), (46, v46), (47, v47), (8, v46), (9, v47), (48, v47), (49, v49), (50, (t 1)), (51, (.bool false)), (52, (t 7)), (53, v53), (54, v53), (56, (t 5)), (57, (t 7)), (58, (t 0)), (59, v59), (55, v59), (60, v60), (61, v61), (10, v60), (11, v61), (62, v60), (63, v63)]) g5 n59)) (
bellowslaw08_AgentRoom_j2 C K I_l1 (puts t [(33, (t 7)), (34, v34), (37, (t 5)), (38, (t 7)), (39, (t 0)), (40, v40), (42, (t 5)), (43, (t 7)), (44, (.agg c44.toArray)), (45, v45), (41, v45), (46, v46), (47, v47), (8, v46), (9, v47), (48, v47), (49, v49), (50, (t 1)), (51, (.bool false)), (52, (t 7)), (53, v53), (54, v53)]) g3 n45)))) (
bellowslaw08_AgentRoom_j3 C K (puts t [(33, (t 7)), (34, v34)]) g n)

def bellowslaw08_AgentRoom (C : CT) (a0 a1 : Value) (g : G) (n : Nat) (K : Cont) : Prop :=
C agent_New_id [(.int .i64 1), (.int .i64 2)] g n fun v24 g1 n24 =>
kExtract v24 0 fun v25 =>
kExtract v24 1 fun v26 =>
kBin .int .neq v26 (.int .i64 0) fun v28 =>
kSplit v28 (
aRet K (.bool false) g1 n24) (
kBin .ptr .eql v25 (.pointer none) fun v31 =>
kSplit v31 (
aRet K (.bool false) g1 n24) (
lfp (bellowslaw08_AgentRoom_l1 C K) (puts (args0 [a0, a1]) [(4, (.bool false)), (24, v24), (23, v24), (25, v25), (26, v26), (5, v25), (6, v26), (27, v26), (28, v28), (29, (.bool false)), (30, v25), (31, v31), (32, v31), (7, (.int .i64 0))]) g1 n24))

theorem bellowslaw08_AgentRoom_eq (C : CT) (a0 a1 : Value) (g : G) (n : Nat) (K : Cont) : bellowslaw08_AgentRoom C a0 a1 g n K = abody Try.prog C bellowslaw08_AgentRoom_id [a0, a1] g n K := by kernel_rfl

/- bellows/bellowslaw08.AgentWaits -/
def bellowslaw08_AgentWaits_j1 (C : CT) (K : Cont) (t : Env) (g : G) (n : Nat) : Prop :=
kLen (t 9) fun v69 =>
kBin .int .neq v69 (.int .i64 1) fun v70 =>
kSplit v70 (
aRet K (.bool false) g n) (
C agent_Agent_Idle_id [(t 5)] g n fun v73 g5 n73 =>
kSplit v73 (
aRet K (.bool false) g5 n73) (
C agent_Agent_Evict_id [(t 5), (.int .i64 1)] g5 n73 fun v77 g6 n77 =>
kExtract v77 0 fun v78 =>
kExtract v77 1 fun v79 =>
C agent_Agent_Load_id [(t 5), (.int .i64 6), (.int .i64 0)] g6 n77 fun v82 g7 n82 =>
kExtract v82 0 fun v83 =>
kExtract v82 1 fun v84 =>
kExtract v82 2 fun v85 =>
kBin .int .neq v79 (.int .i64 15) fun v87 =>
kSplit v87 (
aRet K (.bool false) g7 n82) (
kSplit v84 (
aRet K (.bool false) g7 n82) (
kLen v85 fun v93 =>
kBin .int .neq v93 (.int .i64 0) fun v94 =>
kSplit v94 (
aRet K (.bool false) g7 n82) (
C agent_Agent_Reach_id [(t 5), (.int .i64 8)] g7 n82 fun v98 g8 n98 =>
kLen v98 fun v99 =>
kBin .int .neq v99 (.int .i64 0) fun v100 =>
kSplit v100 (
aRet K (.bool false) g8 n98) (
kBin .int .rem (t 1) (.int .u8 3) fun v103 =>
kBin .int .eql v103 (.int .u8 2) fun v104 =>
kSplit v104 (
C agent_Agent_Load_id [(t 5), (.int .i64 1), (.int .i64 3)] g8 n98 fun v107 g9 n107 =>
kExtract v107 0 fun v108 =>
kExtract v107 1 fun v109 =>
kExtract v107 2 fun v110 =>
kUn .not v109 fun v112 =>
kSplit v112 (
C agent_Agent_Owns_id [(t 5), (.int .i64 1)] g9 n107 fun v115 g10 n115 =>
kUn .not v115 fun v116 =>
kSplit v116 (
C bellowslaw08_wakes_id [] g10 n115 fun v119 g11 n119 =>
aRet K v119 g11 n119) (
aRet K (.bool false) g10 n115)) (
aRet K (.bool false) g9 n107)) (
C agent_Agent_Store_id [(t 5), (.int .i64 1), (.int .i64 3), (t 0)] g8 n98 fun v124 g12 n124 =>
kExtract v124 0 fun v125 =>
kExtract v124 1 fun v126 =>
C agent_Agent_Load_id [(t 5), (.int .i64 1), (.int .i64 3)] g12 n124 fun v129 g13 n129 =>
kExtract v129 0 fun v130 =>
kExtract v129 1 fun v131 =>
kExtract v129 2 fun v132 =>
kSplit v125 (
kSplit v131 (
kBin .int .eql v130 (t 0) fun v140 =>
kSplit v140 (
C agent_Agent_Owns_id [(t 5), (.int .i64 1)] g13 n129 fun v144 g14 n144 =>
kSplit v144 (
C bellowslaw08_wakes_id [] g14 n144 fun v147 g15 n147 =>
aRet K v147 g15 n147) (
aRet K (.bool false) g14 n144)) (
aRet K (.bool false) g13 n129)) (
aRet K (.bool false) g13 n129)) (
aRet K (.bool false) g13 n129))))))))

def bellowslaw08_AgentWaits (C : CT) (a0 a1 : Value) (g : G) (n : Nat) (K : Cont) : Prop :=
C agent_New_id [(.int .i64 2), (.int .i64 2)] g n fun v24 g1 n24 =>
kExtract v24 0 fun v25 =>
kExtract v24 1 fun v26 =>
kBin .int .neq v26 (.int .i64 0) fun v28 =>
kSplit v28 (
aRet K (.bool false) g1 n24) (
kBin .ptr .eql v25 (.pointer none) fun v31 =>
kSplit v31 (
aRet K (.bool false) g1 n24) (
C agent_Agent_Store_id [v25, (.int .i64 1), (.int .i64 3), a0] g1 n24 fun v35 g2 n35 =>
kFill [(.int .i64 0), (.int .i64 0), (.bool false), (.bool false), (.int .u64 0), (.int .u64 0), (.int .u64 0), (.int .u64 0), (.int .u64 0), (.int .u64 0), (.int .u64 0), (.int .u64 0)] [(0, none, (.int .i64 10)), (1, none, (.int .i64 1))] fun c38 =>
C agent_Agent_Hear_id [v25, (.agg c38.toArray)] g2 n35 fun v39 g3 n39 =>
kExtract v39 0 fun v40 =>
kExtract v39 1 fun v41 =>
kBin .int .neq v41 (.int .i64 0) fun v43 =>
kSplit v43 (
aRet K (.bool false) g3 n39) (
kBin .int .rem a1 (.int .u8 3) fun v45 =>
kBin .int .eql v45 (.int .u8 0) fun v47 =>
kSplit v47 (
C agent_Agent_Load_id [v25, (.int .i64 4), (.int .i64 0)] g3 n39 fun v50 g4 n50 =>
kExtract v50 0 fun v51 =>
kExtract v50 1 fun v52 =>
kExtract v50 2 fun v53 =>
bellowslaw08_AgentWaits_j1 C K (puts (args0 [a0, a1]) [(4, (.bool false)), (24, v24), (23, v24), (25, v25), (26, v26), (5, v25), (6, v26), (27, v26), (28, v28), (29, (.bool false)), (30, v25), (31, v31), (32, v31), (33, v25), (34, a0), (35, v35), (37, v25), (38, (.agg c38.toArray)), (39, v39), (36, v39), (40, v40), (41, v41), (7, v40), (8, v41), (42, v41), (43, v43), (9, (.slice none 0 0)), (44, a1), (45, v45), (47, v47), (46, v47), (49, v25), (50, v50), (48, v50), (51, v51), (52, v52), (53, v53), (9, v53)]) g4 n50) (
kBin .int .eql v45 (.int .u8 1) fun v55 =>
kSplit v55 (
C agent_Agent_Store_id [v25, (.int .i64 4), (.int .i64 0), (.int .u64 5)] g3 n39 fun v58 g16 n58 =>
kExtract v58 0 fun v59 =>
kExtract v58 1 fun v60 =>
bellowslaw08_AgentWaits_j1 C K (puts (args0 [a0, a1]) [(4, (.bool false)), (24, v24), (23, v24), (25, v25), (26, v26), (5, v25), (6, v26), (27, v26), (28, v28), (29, (.bool false)), (30, v25), (31, v31), (32, v31), (33, v25), (34, a0), (35, v35), (37, v25), (38, (.agg c38.toArray)), (39, v39), (36, v39), (40, v40), (41, v41), (7, v40), (8, v41), (42, v41), (43, v43), (9, (.slice none 0 0)), (44, a1), (45, v45), (47, v47), (46, v47), (55, v55), (54, v55), (57, v25), (58, v58), (56, v58), (59, v59), (60, v60), (9, v60)]) g16 n58) (
kBin .int .eql v45 (.int .u8 2) fun v62 =>
kSplit v62 (
C agent_Agent_Evict_id [v25, (.int .i64 1)] g3 n39 fun v65 g17 n65 =>
kExtract v65 0 fun v66 =>
kExtract v65 1 fun v67 =>
bellowslaw08_AgentWaits_j1 C K (puts (args0 [a0, a1]) [(4, (.bool false)), (24, v24), (23, v24), (25, v25), (26, v26), (5, v25), (6, v26), (27, v26), (28, v28), (29, (.bool false)), (30, v25), (31, v31), (32, v31), (33, v25), (34, a0), (35, v35), (37, v25), (38, (.agg c38.toArray)), (39, v39), (36, v39), (40, v40), (41, v41), (7, v40), (8, v41), (42, v41), (43, v43), (9, (.slice none 0 0)), (44, a1), (45, v45), (47, v47), (46, v47), (55, v55), (54, v55), (62, v62), (61, v62), (64, v25), (65, v65), (63, v65), (66, v66), (67, v67), (9, v66)]) g17 n65) (
bellowslaw08_AgentWaits_j1 C K (puts (args0 [a0, a1]) [(4, (.bool false)), (24, v24), (23, v24), (25, v25), (26, v26), (5, v25), (6, v26), (27, v26), (28, v28), (29, (.bool false)), (30, v25), (31, v31), (32, v31), (33, v25), (34, a0), (35, v35), (37, v25), (38, (.agg c38.toArray)), (39, v39), (36, v39), (40, v40), (41, v41), (7, v40), (8, v41), (42, v41), (43, v43), (9, (.slice none 0 0)), (44, a1), (45, v45), (47, v47), (46, v47), (55, v55), (54, v55), (62, v62), (61, v62)]) g3 n39))))))

theorem bellowslaw08_AgentWaits_eq (C : CT) (a0 a1 : Value) (g : G) (n : Nat) (K : Cont) : bellowslaw08_AgentWaits C a0 a1 g n K = abody Try.prog C bellowslaw08_AgentWaits_id [a0, a1] g n K := by kernel_rfl

/- bellows/bellowslaw08.AgentPlays -/
def bellowslaw08_AgentPlays_j3 (C : CT) (K : Cont) (I_l1 : ECont) (t : Env) (g : G) (n : Nat) : Prop :=
kBin .int .add (t 11) (.int .i64 1) fun v64 =>
I_l1 (puts t [(63, (t 11)), (64, v64), (11, v64)]) g n

def bellowslaw08_AgentPlays_j2 (C : CT) (K : Cont) (I_l1 : ECont) (t : Env) (g : G) (n : Nat) : Prop :=
kNil (t 9) fun v204 =>
kPtr v204 fun l205 o205 =>
kLd g l205 (o205 + 0) fun v206 =>
C agent_Agent_Slots_id [(t 7)] g n fun v202 g11 n202 =>
(kPtr (ptr l205 (o205 + 0)) fun l _ => g11 l = g l) ∧ C bellowsref05_Array_Slots_id [v206] g11 n202 fun v207 g12 n207 =>
C bellowslaw05_Same_id [v202, v207] g12 n207 fun v208 g13 n208 =>
kUn .not v208 fun v209 =>
kSplit v209 (
aRet K (.bool false) g13 n208) (
C agent_Agent_Idle_id [(t 7)] g13 n208 fun v212 g14 n212 =>
C bellowsref08_Agent_Idle_id [(t 9)] g14 n212 fun v214 g15 n214 =>
kBin .bool .neq v212 v214 fun v215 =>
kSplit v215 (
aRet K (.bool false) g15 n214) (
kPtr (t 12) fun l219 o219 =>
kLd g15 l219 (o219 + 1) fun v220 =>
kPtr (t 12) fun l223 o223 =>
kLd g15 l223 (o223 + 1) fun v224 =>
C agent_Agent_Owns_id [(t 7), v220] g15 n214 fun v221 g16 n221 =>
(kPtr (ptr l223 (o223 + 1)) fun l _ => g16 l = g15 l) ∧ C bellowsref08_Agent_Owns_id [(t 9), v224] g16 n221 fun v225 g17 n225 =>
kBin .bool .neq v221 v225 fun v226 =>
kSplit v226 (
aRet K (.bool false) g17 n225) (
bellowslaw08_AgentPlays_j3 C K I_l1 (puts t [(201, (t 7)), (203, (t 9)), (204, v204), (205, (ptr l205 (o205 + 0))), (206, v206), (202, v202), (207, v207), (208, v208), (209, v209), (210, (.bool false)), (211, (t 7)), (213, (t 9)), (212, v212), (214, v214), (215, v215), (216, v215), (217, (.bool false)), (218, (t 7)), (219, (ptr l219 (o219 + 1))), (220, v220), (222, (t 9)), (223, (ptr l223 (o223 + 1))), (224, v224), (221, v221), (225, v225), (226, v226), (227, v226)]) g17 n225)))

def bellowslaw08_AgentPlays_l1 (C : CT) (K : Cont) (I_l1 : ECont) (t : Env) (g : G) (n : Nat) : Prop :=
kLen (t 2) fun v57 =>
kBin .int .lss (t 11) v57 fun v58 =>
kSplit v58 (
kBin .ptr .neq (t 9) (.pointer none) fun v61 =>
kSplit v61 (
kIndexAddr (t 2) (t 11) 16 fun v67 =>
kPtr v67 fun l68 o68 =>
kLdN g l68 o68 16 fun c68 =>
kNew [(.int .i64 0), (.int .i64 0), (.int .i64 0), (.int .u64 0), (.int .i64 0), (.int .i64 0), (.bool false), (.bool false), (.int .u64 0), (.int .u64 0), (.int .u64 0), (.int .u64 0), (.int .u64 0), (.int .u64 0), (.int .u64 0), (.int .u64 0)] .exact g n fun l12 g4 n12 =>
kAgg (.agg c68.toArray) fun cg5 =>
cg5.length = 16 ∧ kStN g4 l12 0 cg5 fun g5 =>
kLd g5 l12 (0 + 0) fun v70 =>
kBin .int .eql v70 (.int .i64 0) fun v72 =>
kSplit v72 (
kLd g5 l12 (0 + 1) fun v76 =>
kLd g5 l12 (0 + 2) fun v78 =>
C agent_Agent_Load_id [(t 7), v76, v78] g5 n12 fun v79 g6 n79 =>
kExtract v79 0 fun v80 =>
kExtract v79 1 fun v81 =>
kExtract v79 2 fun v82 =>
kLd g6 l12 (0 + 1) fun v85 =>
kLd g6 l12 (0 + 2) fun v87 =>
C bellowsref08_Agent_Load_id [(t 9), v85, v87] g6 n79 fun v88 g7 n88 =>
kNew [(.int .u64 0), (.bool false), (.slice none 0 0)] .exact g7 n88 fun l16 g8 n16 =>
kAgg v88 fun cg9 =>
cg9.length = 3 ∧ kStN g8 l16 0 cg9 fun g9 =>
kLd g9 l16 (0 + 0) fun v91 =>
kBin .int .neq v80 v91 fun v92 =>
kSplit v92 (
aRet K (.bool false) g9 n16) (
kLd g9 l16 (0 + 1) fun v96 =>
kBin .bool .neq v81 v96 fun v97 =>
kSplit v97 (
aRet K (.bool false) g9 n16) (
kLd g9 l16 (0 + 2) fun v102 =>
C bellowskeep_Msgs_id [v82, v102] g9 n16 fun v103 g10 n103 =>
kUn .not v103 fun v104 =>
kSplit v104 (
aRet K (.bool false) g10 n103) (
bellowslaw08_AgentPlays_j2 C K I_l1 (puts t [(55, (t 11)), (56, (t 2)), (57, v57), (58, v58), (59, (.bool true)), (60, (t 9)), (61, v61), (62, v61), (65, (t 2)), (66, (t 11)), (67, v67), (68, (.agg c68.toArray)), (12, (ptr l12 0)), (69, (ptr l12 (0 + 0))), (70, v70), (72, v72), (71, v72), (74, (t 7)), (75, (ptr l12 (0 + 1))), (76, v76), (77, (ptr l12 (0 + 2))), (78, v78), (79, v79), (73, v79), (80, v80), (81, v81), (82, v82), (13, v80), (14, v81), (15, v82), (83, (t 9)), (84, (ptr l12 (0 + 1))), (85, v85), (86, (ptr l12 (0 + 2))), (87, v87), (88, v88), (16, (ptr l16 0)), (89, v80), (90, (ptr l16 (0 + 0))), (91, v91), (92, v92), (93, (.bool false)), (94, v81), (95, (ptr l16 (0 + 1))), (96, v96), (97, v97), (98, v97), (99, (.bool false)), (100, v82), (101, (ptr l16 (0 + 2))), (102, v102), (103, v103), (104, v104), (105, v104)]) g10 n103)))) (
kBin .int .eql v70 (.int .i64 1) fun v107 =>
kSplit v107 (
kLd g5 l12 (0 + 1) fun v111 =>
kLd g5 l12 (0 + 2) fun v113 =>
kLd g5 l12 (0 + 3) fun v115 =>
C agent_Agent_Store_id [(t 7), v111, v113, v115] g5 n12 fun v116 g18 n116 =>
kExtract v116 0 fun v117 =>
kExtract v116 1 fun v118 =>
kLd g18 l12 (0 + 1) fun v122 =>
kLd g18 l12 (0 + 2) fun v124 =>
kLd g18 l12 (0 + 3) fun v126 =>
C bellowsref08_Agent_Store_id [(t 9), v122, v124, v126] g18 n116 fun v127 g19 n127 =>
kExtract v127 0 fun v128 =>
kExtract v127 1 fun v129 =>
kBin .bool .neq v117 v128 fun v132 =>
kSplit v132 (
aRet K (.bool false) g19 n127) (
C bellowskeep_Msgs_id [v118, v129] g19 n127 fun v136 g20 n136 =>
kUn .not v136 fun v137 =>
kSplit v137 (
aRet K (.bool false) g20 n136) (
bellowslaw08_AgentPlays_j2 C K I_l1 (puts t [(55, (t 11)), (56, (t 2)), (57, v57), (58, v58), (59, (.bool true)), (60, (t 9)), (61, v61), (62, v61), (65, (t 2)), (66, (t 11)), (67, v67), (68, (.agg c68.toArray)), (12, (ptr l12 0)), (69, (ptr l12 (0 + 0))), (70, v70), (72, v72), (71, v72), (107, v107), (106, v107), (109, (t 7)), (110, (ptr l12 (0 + 1))), (111, v111), (112, (ptr l12 (0 + 2))), (113, v113), (114, (ptr l12 (0 + 3))), (115, v115), (116, v116), (108, v116), (117, v117), (118, v118), (17, v117), (18, v118), (120, (t 9)), (121, (ptr l12 (0 + 1))), (122, v122), (123, (ptr l12 (0 + 2))), (124, v124), (125, (ptr l12 (0 + 3))), (126, v126), (127, v127), (119, v127), (128, v128), (129, v129), (19, v128), (20, v129), (130, v117), (131, v128), (132, v132), (133, (.bool false)), (134, v118), (135, v129), (136, v136), (137, v137), (138, v137)]) g20 n136))) (
kBin .int .eql v70 (.int .i64 2) fun v140 =>
kSplit v140 (
kLdN g5 l12 (0 + 4) 12 fun c144 =>
C agent_Agent_Hear_id [(t 7), (.agg c144.toArray)] g5 n12 fun v145 g21 n145 =>
kExtract v145 0 fun v146 =>
kExtract v145 1 fun v147 =>
kLdN g21 l12 (0 + 4) 12 fun c151 =>
C bellowsref08_Agent_Hear_id [(t 9), (.agg c151.toArray)] g21 n145 fun v152 g22 n152 =>
kExtract v152 0 fun v153 =>
kExtract v152 1 fun v154 =>
C bellowskeep_Msgs_id [v146, v153] g22 n152 fun v157 g23 n157 =>
kUn .not v157 fun v158 =>
kSplit v158 (
aRet K (.bool false) g23 n157) (
kBin .int .neq v147 v154 fun v162 =>
kSplit v162 (
aRet K (.bool false) g23 n157) (
bellowslaw08_AgentPlays_j2 C K I_l1 (puts t [(55, (t 11)), (56, (t 2)), (57, v57), (58, v58), (59, (.bool true)), (60, (t 9)), (61, v61), (62, v61), (65, (t 2)), (66, (t 11)), (67, v67), (68, (.agg c68.toArray)), (12, (ptr l12 0)), (69, (ptr l12 (0 + 0))), (70, v70), (72, v72), (71, v72), (107, v107), (106, v107), (140, v140), (139, v140), (142, (t 7)), (143, (ptr l12 (0 + 4))), (144, (.agg c144.toArray)), (145, v145), (141, v145), (146, v146), (147, v147), (21, v146), (22, v147), (149, (t 9)), (150, (ptr l12 (0 + 4))), (151, (.agg c151.toArray)), (152, v152), (148, v152), (153, v153), (154, v154), (23, v153), (24, v154), (155, v146), (156, v153), (157, v157), (158, v158), (159, (.bool false)), (160, v147), (161, v154), (162, v162), (163, v162)]) g23 n157))) (
kBin .int .eql v70 (.int .i64 3) fun v165 =>
kSplit v165 (
kLd g5 l12 (0 + 1) fun v169 =>
C agent_Agent_Evict_id [(t 7), v169] g5 n12 fun v170 g24 n170 =>
kExtract v170 0 fun v171 =>
kExtract v170 1 fun v172 =>
kLd g24 l12 (0 + 1) fun v176 =>
C bellowsref08_Agent_Evict_id [(t 9), v176] g24 n170 fun v177 g25 n177 =>
kExtract v177 0 fun v178 =>
kExtract v177 1 fun v179 =>
C bellowskeep_Msgs_id [v171, v178] g25 n177 fun v182 g26 n182 =>
kUn .not v182 fun v183 =>
kSplit v183 (
aRet K (.bool false) g26 n182) (
kBin .int .neq v172 v179 fun v187 =>
kSplit v187 (
aRet K (.bool false) g26 n182) (
bellowslaw08_AgentPlays_j2 C K I_l1 (puts t [(55, (t 11)), (56, (t 2)), (57, v57), (58, v58), (59, (.bool true)), (60, (t 9)), (61, v61), (62, v61), (65, (t 2)), (66, (t 11)), (67, v67), (68, (.agg c68.toArray)), (12, (ptr l12 0)), (69, (ptr l12 (0 + 0))), (70, v70), (72, v72), (71, v72), (107, v107), (106, v107), (140, v140), (139, v140), (165, v165), (164, v165), (167, (t 7)), (168, (ptr l12 (0 + 1))), (169, v169), (170, v170), (166, v170), (171, v171), (172, v172), (25, v171), (26, v172), (174, (t 9)), (175, (ptr l12 (0 + 1))), (176, v176), (177, v177), (173, v177), (178, v178), (179, v179), (27, v178), (28, v179), (180, v171), (181, v178), (182, v182), (183, v183), (184, (.bool false)), (185, v172), (186, v179), (187, v187), (188, v187)]) g26 n182))) (
kBin .int .eql v70 (.int .i64 4) fun v190 =>
kSplit v190 (
kLd g5 l12 (0 + 1) fun v193 =>
kLd g5 l12 (0 + 1) fun v197 =>
C agent_Agent_Reach_id [(t 7), v193] g5 n12 fun v194 g27 n194 =>
(kPtr (ptr l12 (0 + 1)) fun l _ => g27 l = g5 l) ∧ C bellowsref08_Agent_Reach_id [(t 9), v197] g27 n194 fun v198 g28 n198 =>
C bellowskeep_Msgs_id [v194, v198] g28 n198 fun v199 g29 n199 =>
kUn .not v199 fun v200 =>
kSplit v200 (
aRet K (.bool false) g29 n199) (
bellowslaw08_AgentPlays_j2 C K I_l1 (puts t [(55, (t 11)), (56, (t 2)), (57, v57), (58, v58), (59, (.bool true)), (60, (t 9)), (61, v61), (62, v61), (65, (t 2)), (66, (t 11)), (67, v67), (68, (.agg c68.toArray)), (12, (ptr l12 0)), (69, (ptr l12 (0 + 0))), (70, v70), (72, v72), (71, v72), (107, v107), (106, v107), (140, v140), (139, v140), (165, v165), (164, v165), (190, v190), (189, v190), (191, (t 7)), (192, (ptr l12 (0 + 1))), (193, v193), (195, (t 9)), (196, (ptr l12 (0 + 1))), (197, v197), (194, v194), (198, v198), (199, v199), (200, v200)]) g29 n199)) (
bellowslaw08_AgentPlays_j2 C K I_l1 (puts t [(55, (t 11)), (56, (t 2)), (57, v57), (58, v58), (59, (.bool true)), (60, (t 9)), (61, v61), (62, v61), (65, (t 2)), (66, (t 11)), (67, v67), (68, (.agg c68.toArray)), (12, (ptr l12 0)), (69, (ptr l12 (0 + 0))), (70, v70), (72, v72), (71, v72), (107, v107), (106, v107), (140, v140), (139, v140), (165, v165), (164, v165), (190, v190), (189, v190)]) g5 n12)))))) (
C bellowslaw08_wakes_id [] g n fun v228 g30 n228 =>
aRet K v228 g30 n228)) (
C bellowslaw08_wakes_id [] g n fun v228 g31 n228 =>
aRet K v228 g31 n228)

def bellowslaw08_AgentPlays (C : CT) (a0 a1 a2 : Value) (g : G) (n : Nat) (K : Cont) : Prop :=
kLen a2 fun v30 =>
kBin .int .gtr v30 (.int .i64 200) fun v31 =>
kSplit v31 (
C bellowslaw08_wakes_id [] g n fun v32 g1 n32 =>
aRet K v32 g1 n32) (
C agent_New_id [a0, a1] g n fun v36 g2 n36 =>
kExtract v36 0 fun v37 =>
kExtract v36 1 fun v38 =>
C bellowsref08_New_id [a0, a1] g2 n36 fun v42 g3 n42 =>
kExtract v42 0 fun v43 =>
kExtract v42 1 fun v44 =>
kBin .int .neq v38 v44 fun v47 =>
kSplit v47 (
aRet K (.bool false) g3 n42) (
kBin .ptr .eql v37 (.pointer none) fun v50 =>
kBin .ptr .eql v43 (.pointer none) fun v52 =>
kBin .bool .neq v50 v52 fun v53 =>
kSplit v53 (
aRet K (.bool false) g3 n42) (
lfp (bellowslaw08_AgentPlays_l1 C K) (puts (args0 [a0, a1, a2]) [(6, (.bool false)), (29, a2), (30, v30), (31, v31), (34, a0), (35, a1), (36, v36), (33, v36), (37, v37), (38, v38), (7, v37), (8, v38), (40, a0), (41, a1), (42, v42), (39, v42), (43, v43), (44, v44), (9, v43), (10, v44), (45, v38), (46, v44), (47, v47), (48, (.bool false)), (49, v37), (50, v50), (51, v43), (52, v52), (53, v53), (54, v53), (11, (.int .i64 0))]) g3 n42)))

theorem bellowslaw08_AgentPlays_eq (C : CT) (a0 a1 a2 : Value) (g : G) (n : Nat) (K : Cont) : bellowslaw08_AgentPlays C a0 a1 a2 g n K = abody Try.prog C bellowslaw08_AgentPlays_id [a0, a1, a2] g n K := by kernel_rfl

/- bellows/bellowslaw08.AgentOne -/
def bellowslaw08_AgentOne_j4 (C : CT) (K : Cont) (I_l1 : ECont) (I_l3 : ECont) (t : Env) (g : G) (n : Nat) : Prop :=
kBin .int .add (t 15) (.int .i64 1) fun v126 =>
I_l3 (puts t [(125, (t 15)), (126, v126), (15, v126)]) g n

def bellowslaw08_AgentOne_j6 (C : CT) (K : Cont) (I_l1 : ECont) (t : Env) (g : G) (n : Nat) : Prop :=
kBin .int .add (t 9) (.int .i64 1) fun v52 =>
I_l1 (puts t [(51, (t 9)), (52, v52), (9, v52)]) g n

def bellowslaw08_AgentOne_j5 (C : CT) (K : Cont) (I_l1 : ECont) (t : Env) (g : G) (n : Nat) : Prop :=
kBin .int .gtr (t 14) (.int .i64 1) fun v136 =>
kSplit v136 (
aRet K (.bool false) g n) (
C agent_Agent_Idle_id [(t 7)] g n fun v139 g10 n139 =>
kBin .int .eql (t 14) (.int .i64 0) fun v141 =>
kBin .bool .neq v139 v141 fun v142 =>
kSplit v142 (
aRet K (.bool false) g10 n139) (
kLen (t 12) fun v146 =>
kBin .int .eql v146 (.int .i64 1) fun v147 =>
kSplit v147 (
kBin .int .neq (t 14) (.int .i64 1) fun v150 =>
kSplit v150 (
aRet K (.bool false) g10 n139) (
bellowslaw08_AgentOne_j6 C K I_l1 (puts t [(135, (t 14)), (136, v136), (137, (.bool false)), (138, (t 7)), (139, v139), (140, (t 14)), (141, v141), (142, v142), (143, v142), (144, (.bool false)), (145, (t 12)), (146, v146), (147, v147), (148, (.bool true)), (149, (t 14)), (150, v150), (151, v150), (152, v150)]) g10 n139)) (
bellowslaw08_AgentOne_j6 C K I_l1 (puts t [(135, (t 14)), (136, v136), (137, (.bool false)), (138, (t 7)), (139, v139), (140, (t 14)), (141, v141), (142, v142), (143, v142), (144, (.bool false)), (145, (t 12)), (146, v146), (147, v147), (148, (.bool false)), (149, undef), (150, undef), (151, (.bool false)), (152, (.bool false))]) g10 n139)))

def bellowslaw08_AgentOne_l3 (C : CT) (K : Cont) (I_l1 : ECont) (I_l3 : ECont) (t : Env) (g : G) (n : Nat) : Prop :=
kLen (t 13) fun v123 =>
kBin .int .lss (t 15) v123 fun v124 =>
kSplit v124 (
kIndexAddr (t 13) (t 15) 11 fun v129 =>
kPtr v129 fun l130 o130 =>
kLd g l130 (o130 + 0) fun v131 =>
kBin .int .gtr v131 (.int .i64 3) fun v132 =>
kSplit v132 (
kBin .int .add (t 14) (.int .i64 1) fun v134 =>
bellowslaw08_AgentOne_j4 C K I_l1 I_l3 (puts t [(121, (t 15)), (122, (t 13)), (123, v123), (124, v124), (127, (t 13)), (128, (t 15)), (129, v129), (130, (ptr l130 (o130 + 0))), (131, v131), (132, v132), (133, (t 14)), (134, v134), (14, v134)]) g n) (
bellowslaw08_AgentOne_j4 C K I_l1 I_l3 (puts t [(121, (t 15)), (122, (t 13)), (123, v123), (124, v124), (127, (t 13)), (128, (t 15)), (129, v129), (130, (ptr l130 (o130 + 0))), (131, v131), (132, v132)]) g n)) (
bellowslaw08_AgentOne_j5 C K I_l1 (puts t [(121, (t 15)), (122, (t 13)), (123, v123), (124, v124)]) g n)

def bellowslaw08_AgentOne_j2 (C : CT) (K : Cont) (I_l1 : ECont) (t : Env) (g : G) (n : Nat) : Prop :=
kLen (t 12) fun v108 =>
kBin .int .gtr v108 (.int .i64 1) fun v109 =>
kSplit v109 (
aRet K (.bool false) g n) (
kLen (t 12) fun v112 =>
kBin .int .eql v112 (.int .i64 1) fun v113 =>
kSplit v113 (
kUn .not (t 11) fun v116 =>
kSplit v116 (
aRet K (.bool false) g n) (
C agent_Agent_Slots_id [(t 7)] g n fun v120 g9 n120 =>
lfp (bellowslaw08_AgentOne_l3 C K I_l1) (puts t [(107, (t 12)), (108, v108), (109, v109), (110, (.bool false)), (111, (t 12)), (112, v112), (113, v113), (114, (.bool true)), (115, (t 11)), (116, v116), (117, v116), (118, v116), (119, (t 7)), (120, v120), (13, v120), (14, (.int .i64 0)), (15, (.int .i64 0))]) g9 n120)) (
C agent_Agent_Slots_id [(t 7)] g n fun v120 g11 n120 =>
lfp (bellowslaw08_AgentOne_l3 C K I_l1) (puts t [(107, (t 12)), (108, v108), (109, v109), (110, (.bool false)), (111, (t 12)), (112, v112), (113, v113), (114, (.bool false)), (115, undef), (116, undef), (117, (.bool false)), (118, (.bool false)), (119, (t 7)), (120, v120), (13, v120), (14, (.int .i64 0)), (15, (.int .i64 0))]) g11 n120))

def bellowslaw08_AgentOne_l1 (C : CT) (K : Cont) (I_l1 : ECont) (t : Env) (g : G) (n : Nat) : Prop :=
kLen (t 2) fun v49 =>
kBin .int .lss (t 9) v49 fun v50 =>
kSplit v50 (
kIndexAddr (t 2) (t 9) 16 fun v55 =>
kPtr v55 fun l56 o56 =>
kLdN g l56 o56 16 fun c56 =>
kNew [(.int .i64 0), (.int .i64 0), (.int .i64 0), (.int .u64 0), (.int .i64 0), (.int .i64 0), (.bool false), (.bool false), (.int .u64 0), (.int .u64 0), (.int .u64 0), (.int .u64 0), (.int .u64 0), (.int .u64 0), (.int .u64 0), (.int .u64 0)] .exact g n fun l10 g5 n10 =>
kAgg (.agg c56.toArray) fun cg6 =>
cg6.length = 16 ∧ kStN g5 l10 0 cg6 fun g6 =>
C agent_Agent_Idle_id [(t 7)] g6 n10 fun v58 g7 n58 =>
kLd g7 l10 (0 + 0) fun v60 =>
kBin .int .eql v60 (.int .i64 0) fun v62 =>
kSplit v62 (
kLd g7 l10 (0 + 1) fun v66 =>
kLd g7 l10 (0 + 2) fun v68 =>
C agent_Agent_Load_id [(t 7), v66, v68] g7 n58 fun v69 g8 n69 =>
kExtract v69 0 fun v70 =>
kExtract v69 1 fun v71 =>
kExtract v69 2 fun v72 =>
bellowslaw08_AgentOne_j2 C K I_l1 (puts t [(47, (t 9)), (48, (t 2)), (49, v49), (50, v50), (53, (t 2)), (54, (t 9)), (55, v55), (56, (.agg c56.toArray)), (10, (ptr l10 0)), (57, (t 7)), (58, v58), (11, v58), (12, (.slice none 0 0)), (59, (ptr l10 (0 + 0))), (60, v60), (62, v62), (61, v62), (64, (t 7)), (65, (ptr l10 (0 + 1))), (66, v66), (67, (ptr l10 (0 + 2))), (68, v68), (69, v69), (63, v69), (70, v70), (71, v71), (72, v72), (12, v72)]) g8 n69) (
kBin .int .eql v60 (.int .i64 1) fun v74 =>
kSplit v74 (
kLd g7 l10 (0 + 1) fun v78 =>
kLd g7 l10 (0 + 2) fun v80 =>
kLd g7 l10 (0 + 3) fun v82 =>
C agent_Agent_Store_id [(t 7), v78, v80, v82] g7 n58 fun v83 g12 n83 =>
kExtract v83 0 fun v84 =>
kExtract v83 1 fun v85 =>
bellowslaw08_AgentOne_j2 C K I_l1 (puts t [(47, (t 9)), (48, (t 2)), (49, v49), (50, v50), (53, (t 2)), (54, (t 9)), (55, v55), (56, (.agg c56.toArray)), (10, (ptr l10 0)), (57, (t 7)), (58, v58), (11, v58), (12, (.slice none 0 0)), (59, (ptr l10 (0 + 0))), (60, v60), (62, v62), (61, v62), (74, v74), (73, v74), (76, (t 7)), (77, (ptr l10 (0 + 1))), (78, v78), (79, (ptr l10 (0 + 2))), (80, v80), (81, (ptr l10 (0 + 3))), (82, v82), (83, v83), (75, v83), (84, v84), (85, v85), (12, v85)]) g12 n83) (
kBin .int .eql v60 (.int .i64 2) fun v87 =>
kSplit v87 (
kLdN g7 l10 (0 + 4) 12 fun c90 =>
C agent_Agent_Hear_id [(t 7), (.agg c90.toArray)] g7 n58 fun v91 g13 n91 =>
bellowslaw08_AgentOne_j2 C K I_l1 (puts t [(47, (t 9)), (48, (t 2)), (49, v49), (50, v50), (53, (t 2)), (54, (t 9)), (55, v55), (56, (.agg c56.toArray)), (10, (ptr l10 0)), (57, (t 7)), (58, v58), (11, v58), (12, (.slice none 0 0)), (59, (ptr l10 (0 + 0))), (60, v60), (62, v62), (61, v62), (74, v74), (73, v74), (87, v87), (86, v87), (88, (t 7)), (89, (ptr l10 (0 + 4))), (90, (.agg c90.toArray)), (91, v91)]) g13 n91) (
kBin .int .eql v60 (.int .i64 3) fun v93 =>
kSplit v93 (
kLd g7 l10 (0 + 1) fun v97 =>
C agent_Agent_Evict_id [(t 7), v97] g7 n58 fun v98 g14 n98 =>
kExtract v98 0 fun v99 =>
kExtract v98 1 fun v100 =>
bellowslaw08_AgentOne_j2 C K I_l1 (puts t [(47, (t 9)), (48, (t 2)), (49, v49), (50, v50), (53, (t 2)), (54, (t 9)), (55, v55), (56, (.agg c56.toArray)), (10, (ptr l10 0)), (57, (t 7)), (58, v58), (11, v58), (12, (.slice none 0 0)), (59, (ptr l10 (0 + 0))), (60, v60), (62, v62), (61, v62), (74, v74), (73, v74), (87, v87), (86, v87), (93, v93), (92, v93), (95, (t 7)), (96, (ptr l10 (0 + 1))), (97, v97), (98, v98), (94, v98), (99, v99), (100, v100), (12, v99)]) g14 n98) (
kBin .int .eql v60 (.int .i64 4) fun v102 =>
kSplit v102 (
kLd g7 l10 (0 + 1) fun v105 =>
C agent_Agent_Reach_id [(t 7), v105] g7 n58 fun v106 g15 n106 =>
bellowslaw08_AgentOne_j2 C K I_l1 (puts t [(47, (t 9)), (48, (t 2)), (49, v49), (50, v50), (53, (t 2)), (54, (t 9)), (55, v55), (56, (.agg c56.toArray)), (10, (ptr l10 0)), (57, (t 7)), (58, v58), (11, v58), (12, (.slice none 0 0)), (59, (ptr l10 (0 + 0))), (60, v60), (62, v62), (61, v62), (74, v74), (73, v74), (87, v87), (86, v87), (93, v93), (92, v93), (102, v102), (101, v102), (103, (t 7)), (104, (ptr l10 (0 + 1))), (105, v105), (106, v106), (12, v106)]) g15 n106) (
bellowslaw08_AgentOne_j2 C K I_l1 (puts t [(47, (t 9)), (48, (t 2)), (49, v49), (50, v50), (53, (t 2)), (54, (t 9)), (55, v55), (56, (.agg c56.toArray)), (10, (ptr l10 0)), (57, (t 7)), (58, v58), (11, v58), (12, (.slice none 0 0)), (59, (ptr l10 (0 + 0))), (60, v60), (62, v62), (61, v62), (74, v74), (73, v74), (87, v87), (86, v87), (93, v93), (92, v93), (102, v102), (101, v102)]) g7 n58)))))) (
C bellowslaw08_wakes_id [] g n fun v153 g16 n153 =>
aRet K v153 g16 n153)

def bellowslaw08_AgentOne (C : CT) (a0 a1 a2 : Value) (g : G) (n : Nat) (K : Cont) : Prop :=
kBin .int .rem a0 (.int .u8 4) fun v18 =>
kBin .int .shl (.int .i64 1) v18 fun v19 =>
kConv .i64 a1 fun v21 =>
kBin .int .rem v21 (.int .i64 8) fun v22 =>
kBin .int .add (.int .i64 1) v22 fun v23 =>
C agent_New_id [v19, v23] g n fun v24 g1 n24 =>
kExtract v24 0 fun v25 =>
kExtract v24 1 fun v26 =>
kBin .int .neq v26 (.int .i64 0) fun v28 =>
kSplit v28 (
kBin .int .eql v26 (.int .i64 0) fun v39 =>
kSplit v39 (
kBin .ptr .neq v25 (.pointer none) fun v42 =>
kSplit v42 (
C bellowslaw08_wakes_id [] g1 n24 fun v45 g2 n45 =>
aRet K v45 g2 n45) (
aRet K (.bool false) g1 n24)) (
aRet K (.bool false) g1 n24)) (
kBin .ptr .eql v25 (.pointer none) fun v31 =>
kSplit v31 (
kBin .int .eql v26 (.int .i64 0) fun v39 =>
kSplit v39 (
kBin .ptr .neq v25 (.pointer none) fun v42 =>
kSplit v42 (
C bellowslaw08_wakes_id [] g1 n24 fun v45 g3 n45 =>
aRet K v45 g3 n45) (
aRet K (.bool false) g1 n24)) (
aRet K (.bool false) g1 n24)) (
kLen a2 fun v35 =>
kBin .int .gtr v35 (.int .i64 200) fun v36 =>
kSplit v36 (
kBin .int .eql v26 (.int .i64 0) fun v39 =>
kSplit v39 (
kBin .ptr .neq v25 (.pointer none) fun v42 =>
kSplit v42 (
C bellowslaw08_wakes_id [] g1 n24 fun v45 g4 n45 =>
aRet K v45 g4 n45) (
aRet K (.bool false) g1 n24)) (
aRet K (.bool false) g1 n24)) (
lfp (bellowslaw08_AgentOne_l1 C K) (puts (args0 [a0, a1, a2]) [(6, (.bool false)), (17, a0), (18, v18), (19, v19), (20, a1), (21, v21), (22, v22), (23, v23), (24, v24), (16, v24), (25, v25), (26, v26), (7, v25), (8, v26), (27, v26), (28, v28), (29, (.bool false)), (30, v25), (31, v31), (32, v31), (33, (.bool false)), (34, a2), (35, v35), (36, v36), (37, v36), (9, (.int .i64 0))]) g1 n24)))

theorem bellowslaw08_AgentOne_eq (C : CT) (a0 a1 a2 : Value) (g : G) (n : Nat) (K : Cont) : bellowslaw08_AgentOne C a0 a1 a2 g n K = abody Try.prog C bellowslaw08_AgentOne_id [a0, a1, a2] g n K := by kernel_rfl

/- bellows/bellowslaw08.AgentTells -/
def bellowslaw08_AgentTells (C : CT) (a0 a1 a2 : Value) (g : G) (n : Nat) (K : Cont) : Prop :=
C agent_New_id [(.int .i64 2), (.int .i64 2)] g n fun v35 g1 n35 =>
kExtract v35 0 fun v36 =>
kExtract v35 1 fun v37 =>
kConv .i64 a0 fun v39 =>
kBin .int .rem v39 (.int .i64 64) fun v40 =>
kConv .i64 a1 fun v42 =>
kBin .int .rem v42 (.int .i64 8) fun v43 =>
kBin .int .neq v37 (.int .i64 0) fun v45 =>
kSplit v45 (
aRet K (.bool false) g1 n35) (
kBin .ptr .eql v36 (.pointer none) fun v48 =>
kSplit v48 (
aRet K (.bool false) g1 n35) (
C agent_Agent_Store_id [v36, v40, v43, a2] g1 n35 fun v54 g2 n54 =>
kFill [(.int .i64 0), (.int .i64 0), (.bool false), (.bool false), (.int .u64 0), (.int .u64 0), (.int .u64 0), (.int .u64 0), (.int .u64 0), (.int .u64 0), (.int .u64 0), (.int .u64 0)] [(0, none, (.int .i64 10)), (1, none, v40)] fun c58 =>
C agent_Agent_Hear_id [v36, (.agg c58.toArray)] g2 n54 fun v59 g3 n59 =>
kExtract v59 0 fun v60 =>
kExtract v59 1 fun v61 =>
kBin .int .neq v61 (.int .i64 0) fun v63 =>
kSplit v63 (
aRet K (.bool false) g3 n59) (
C agent_Agent_Store_id [v36, v40, v43, a2] g3 n59 fun v69 g4 n69 =>
kExtract v69 0 fun v70 =>
kExtract v69 1 fun v71 =>
kUn .not v70 fun v73 =>
kSplit v73 (
aRet K (.bool false) g4 n69) (
kNew [(.int .u64 0), (.int .u64 0), (.int .u64 0), (.int .u64 0), (.int .u64 0), (.int .u64 0), (.int .u64 0), (.int .u64 0)] .exact g4 n69 fun l15 g5 n15 =>
kIndexArr (ptr l15 0) v43 8 1 fun v76 =>
kPtr v76 fun lg6 og6 =>
kSt g5 lg6 og6 a2 fun g6 =>
kBin .int .quo a1 (.int .u8 8) fun v78 =>
kBin .int .rem v78 (.int .u8 4) fun v79 =>
kBin .int .eql v79 (.int .u8 0) fun v81 =>
kSplit v81 (
kFill [(.int .i64 0), (.int .i64 0), (.bool false), (.bool false), (.int .u64 0), (.int .u64 0), (.int .u64 0), (.int .u64 0), (.int .u64 0), (.int .u64 0), (.int .u64 0), (.int .u64 0)] [(0, none, (.int .i64 12)), (1, none, v40)] fun c85 =>
C agent_Agent_Hear_id [v36, (.agg c85.toArray)] g6 n15 fun v86 g7 n86 =>
kExtract v86 0 fun v87 =>
kExtract v86 1 fun v88 =>
kBin .int .eql v88 (.int .i64 0) fun v90 =>
kSplit v90 (
kLen v87 fun v93 =>
kBin .int .eql v93 (.int .i64 1) fun v94 =>
kSplit v94 (
kIndexAddr v87 (.int .i64 0) 12 fun v98 =>
kPtr v98 fun l99 o99 =>
kLd g7 l99 (o99 + 2) fun v100 =>
kSplit v100 (
kIndexAddr v87 (.int .i64 0) 12 fun v104 =>
kPtr v104 fun l105 o105 =>
kLdN g7 l105 (o105 + 4) 8 fun c106 =>
kLdN g7 l15 0 8 fun c107 =>
kBin (.agg [.i, .i, .i, .i, .i, .i, .i, .i]) .eql (.agg c106.toArray) (.agg c107.toArray) fun v108 =>
kSplit v108 (
C agent_Agent_Slots_id [v36] g7 n86 fun v112 g8 n112 =>
kLen v112 fun v113 =>
kBin .int .eql v113 (.int .i64 0) fun v114 =>
kSplit v114 (
C bellowslaw08_wakes_id [] g8 n112 fun v117 g9 n117 =>
aRet K v117 g9 n117) (
aRet K (.bool false) g8 n112)) (
aRet K (.bool false) g7 n86)) (
aRet K (.bool false) g7 n86)) (
aRet K (.bool false) g7 n86)) (
aRet K (.bool false) g7 n86)) (
kBin .int .eql v79 (.int .u8 1) fun v120 =>
kSplit v120 (
kFill [(.int .i64 0), (.int .i64 0), (.bool false), (.bool false), (.int .u64 0), (.int .u64 0), (.int .u64 0), (.int .u64 0), (.int .u64 0), (.int .u64 0), (.int .u64 0), (.int .u64 0)] [(0, none, (.int .i64 13)), (1, none, v40)] fun c124 =>
C agent_Agent_Hear_id [v36, (.agg c124.toArray)] g6 n15 fun v125 g10 n125 =>
kExtract v125 0 fun v126 =>
kExtract v125 1 fun v127 =>
kFill [(.int .i64 0), (.int .i64 0), (.bool false), (.bool false), (.int .u64 0), (.int .u64 0), (.int .u64 0), (.int .u64 0), (.int .u64 0), (.int .u64 0), (.int .u64 0), (.int .u64 0)] [(0, none, (.int .i64 12)), (1, none, v40)] fun c131 =>
C agent_Agent_Hear_id [v36, (.agg c131.toArray)] g10 n125 fun v132 g11 n132 =>
kExtract v132 0 fun v133 =>
kExtract v132 1 fun v134 =>
kBin .int .eql v127 (.int .i64 0) fun v136 =>
kSplit v136 (
kBin .int .eql v134 (.int .i64 0) fun v139 =>
kSplit v139 (
kLen v126 fun v143 =>
kBin .int .eql v143 (.int .i64 1) fun v144 =>
kSplit v144 (
kIndexAddr v126 (.int .i64 0) 12 fun v148 =>
kPtr v148 fun l149 o149 =>
kLd g11 l149 (o149 + 2) fun v150 =>
kSplit v150 (
kIndexAddr v126 (.int .i64 0) 12 fun v154 =>
kPtr v154 fun l155 o155 =>
kLd g11 l155 (o155 + 3) fun v156 =>
kSplit v156 (
kIndexAddr v126 (.int .i64 0) 12 fun v160 =>
kPtr v160 fun l161 o161 =>
kLdN g11 l161 (o161 + 4) 8 fun c162 =>
kLdN g11 l15 0 8 fun c163 =>
kBin (.agg [.i, .i, .i, .i, .i, .i, .i, .i]) .eql (.agg c162.toArray) (.agg c163.toArray) fun v164 =>
kSplit v164 (
kLen v133 fun v168 =>
kBin .int .eql v168 (.int .i64 1) fun v169 =>
kSplit v169 (
kIndexAddr v133 (.int .i64 0) 12 fun v173 =>
kPtr v173 fun l174 o174 =>
kLd g11 l174 (o174 + 2) fun v175 =>
kUn .not v175 fun v176 =>
kSplit v176 (
C bellowslaw08_wakes_id [] g11 n132 fun v179 g12 n179 =>
aRet K v179 g12 n179) (
aRet K (.bool false) g11 n132)) (
aRet K (.bool false) g11 n132)) (
aRet K (.bool false) g11 n132)) (
aRet K (.bool false) g11 n132)) (
aRet K (.bool false) g11 n132)) (
aRet K (.bool false) g11 n132)) (
aRet K (.bool false) g11 n132)) (
aRet K (.bool false) g11 n132)) (
kBin .int .eql v79 (.int .u8 2) fun v182 =>
kSplit v182 (
C agent_Agent_Evict_id [v36, v40] g6 n15 fun v186 g13 n186 =>
kExtract v186 0 fun v187 =>
kExtract v186 1 fun v188 =>
kFill [(.int .i64 0), (.int .i64 0), (.bool false), (.bool false), (.int .u64 0), (.int .u64 0), (.int .u64 0), (.int .u64 0), (.int .u64 0), (.int .u64 0), (.int .u64 0), (.int .u64 0)] [(0, none, (.int .i64 11)), (1, none, v40)] fun c192 =>
C agent_Agent_Hear_id [v36, (.agg c192.toArray)] g13 n186 fun v193 g14 n193 =>
kExtract v193 0 fun v194 =>
kExtract v193 1 fun v195 =>
kBin .int .eql v188 (.int .i64 0) fun v197 =>
kSplit v197 (
kBin .int .eql v195 (.int .i64 0) fun v200 =>
kSplit v200 (
kLen v187 fun v204 =>
kBin .int .eql v204 (.int .i64 1) fun v205 =>
kSplit v205 (
kIndexAddr v187 (.int .i64 0) 12 fun v209 =>
kPtr v209 fun l210 o210 =>
kLd g14 l210 (o210 + 0) fun v211 =>
kBin .int .eql v211 (.int .i64 3) fun v212 =>
kSplit v212 (
kIndexAddr v187 (.int .i64 0) 12 fun v216 =>
kPtr v216 fun l217 o217 =>
kLd g14 l217 (o217 + 2) fun v218 =>
kSplit v218 (
kIndexAddr v187 (.int .i64 0) 12 fun v222 =>
kPtr v222 fun l223 o223 =>
kLdN g14 l223 (o223 + 4) 8 fun c224 =>
kLdN g14 l15 0 8 fun c225 =>
kBin (.agg [.i, .i, .i, .i, .i, .i, .i, .i]) .eql (.agg c224.toArray) (.agg c225.toArray) fun v226 =>
kSplit v226 (
kLen v194 fun v230 =>
kBin .int .eql v230 (.int .i64 0) fun v231 =>
kSplit v231 (
C agent_Agent_Slots_id [v36] g14 n193 fun v235 g15 n235 =>
kLen v235 fun v236 =>
kBin .int .eql v236 (.int .i64 0) fun v237 =>
kSplit v237 (
C bellowslaw08_wakes_id [] g15 n235 fun v240 g16 n240 =>
aRet K v240 g16 n240) (
aRet K (.bool false) g15 n235)) (
aRet K (.bool false) g14 n193)) (
aRet K (.bool false) g14 n193)) (
aRet K (.bool false) g14 n193)) (
aRet K (.bool false) g14 n193)) (
aRet K (.bool false) g14 n193)) (
aRet K (.bool false) g14 n193)) (
aRet K (.bool false) g14 n193)) (
C agent_Agent_Evict_id [v36, v40] g6 n15 fun v245 g17 n245 =>
kExtract v245 0 fun v246 =>
kExtract v245 1 fun v247 =>
kFill [(.int .i64 0), (.int .i64 0), (.bool false), (.bool false), (.int .u64 0), (.int .u64 0), (.int .u64 0), (.int .u64 0), (.int .u64 0), (.int .u64 0), (.int .u64 0), (.int .u64 0)] [(0, none, (.int .i64 13)), (1, none, v40)] fun c251 =>
C agent_Agent_Hear_id [v36, (.agg c251.toArray)] g17 n245 fun v252 g18 n252 =>
kExtract v252 0 fun v253 =>
kExtract v252 1 fun v254 =>
kFill [(.int .i64 0), (.int .i64 0), (.bool false), (.bool false), (.int .u64 0), (.int .u64 0), (.int .u64 0), (.int .u64 0), (.int .u64 0), (.int .u64 0), (.int .u64 0), (.int .u64 0)] [(0, none, (.int .i64 12)), (1, none, v40)] fun c258 =>
C agent_Agent_Hear_id [v36, (.agg c258.toArray)] g18 n252 fun v259 g19 n259 =>
kExtract v259 0 fun v260 =>
kExtract v259 1 fun v261 =>
kFill [(.int .i64 0), (.int .i64 0), (.bool false), (.bool false), (.int .u64 0), (.int .u64 0), (.int .u64 0), (.int .u64 0), (.int .u64 0), (.int .u64 0), (.int .u64 0), (.int .u64 0)] [(0, none, (.int .i64 11)), (1, none, v40)] fun c265 =>
C agent_Agent_Hear_id [v36, (.agg c265.toArray)] g19 n259 fun v266 g20 n266 =>
kExtract v266 0 fun v267 =>
kExtract v266 1 fun v268 =>
kBin .int .eql v247 (.int .i64 0) fun v270 =>
kSplit v270 (
kBin .int .eql v254 (.int .i64 0) fun v273 =>
kSplit v273 (
kBin .int .eql v261 (.int .i64 16) fun v277 =>
kSplit v277 (
kBin .int .eql v268 (.int .i64 0) fun v281 =>
kSplit v281 (
kLen v246 fun v285 =>
kBin .int .eql v285 (.int .i64 1) fun v286 =>
kSplit v286 (
kLen v253 fun v290 =>
kBin .int .eql v290 (.int .i64 1) fun v291 =>
kSplit v291 (
kIndexAddr v253 (.int .i64 0) 12 fun v295 =>
kPtr v295 fun l296 o296 =>
kLd g20 l296 (o296 + 2) fun v297 =>
kSplit v297 (
kIndexAddr v253 (.int .i64 0) 12 fun v301 =>
kPtr v301 fun l302 o302 =>
kLd g20 l302 (o302 + 3) fun v303 =>
kUn .not v303 fun v304 =>
kSplit v304 (
kIndexAddr v253 (.int .i64 0) 12 fun v308 =>
kPtr v308 fun l309 o309 =>
kLdN g20 l309 (o309 + 4) 8 fun c310 =>
kLdN g20 l15 0 8 fun c311 =>
kBin (.agg [.i, .i, .i, .i, .i, .i, .i, .i]) .eql (.agg c310.toArray) (.agg c311.toArray) fun v312 =>
kSplit v312 (
kLen v267 fun v316 =>
kBin .int .eql v316 (.int .i64 0) fun v317 =>
kSplit v317 (
C agent_Agent_Idle_id [v36] g20 n266 fun v321 g21 n321 =>
kSplit v321 (
C bellowslaw08_wakes_id [] g21 n321 fun v324 g22 n324 =>
aRet K v324 g22 n324) (
aRet K (.bool false) g21 n321)) (
aRet K (.bool false) g20 n266)) (
aRet K (.bool false) g20 n266)) (
aRet K (.bool false) g20 n266)) (
aRet K (.bool false) g20 n266)) (
aRet K (.bool false) g20 n266)) (
aRet K (.bool false) g20 n266)) (
aRet K (.bool false) g20 n266)) (
aRet K (.bool false) g20 n266)) (
aRet K (.bool false) g20 n266)) (
aRet K (.bool false) g20 n266))))))))

theorem bellowslaw08_AgentTells_eq (C : CT) (a0 a1 a2 : Value) (g : G) (n : Nat) (K : Cont) : bellowslaw08_AgentTells C a0 a1 a2 g n K = abody Try.prog C bellowslaw08_AgentTells_id [a0, a1, a2] g n K := by kernel_rfl

/- bellows/agent.New -/
def agent_New (C : CT) (a0 a1 : Value) (g : G) (n : Nat) (K : Cont) : Prop :=
C array_New_id [a0, a1] g n fun v11 g1 n11 =>
kExtract v11 0 fun v12 =>
kExtract v11 1 fun v13 =>
kBin .int .neq v13 (.int .i64 0) fun v15 =>
kSplit v15 (
aRet K (.tuple #[(.pointer none), v13]) g1 n11) (
kFill [(.pointer none)] [(0, none, v12)] fun c18 =>
kAgg (.agg c18.toArray) fun c19 =>
kNew c19 .exact g1 n11 fun l19 g2 n19 =>
aRet K (.tuple #[(ptr l19 0), (.int .i64 0)]) g2 n19)

theorem agent_New_eq (C : CT) (a0 a1 : Value) (g : G) (n : Nat) (K : Cont) : agent_New C a0 a1 g n K = abody Try.prog C agent_New_id [a0, a1] g n K := by kernel_rfl

/- (*bellows/agent.Agent).Load -/
def agent_Agent_Load_j2 (C : CT) (K : Cont) (t : Env) (g : G) (n : Nat) : Prop :=
kFill [(.int .u64 0), (.int .u64 0), (.int .u64 0), (.int .u64 0), (.int .u64 0), (.int .u64 0), (.int .u64 0), (.int .u64 0)] [] fun c40 =>
C agent_Agent_ask_id [(t 0), (t 1), (.int .i64 4), (.int .i64 1), (.agg c40.toArray)] g n fun v41 g6 n41 =>
aRet K (.tuple #[(.int .u64 0), (.bool false), v41]) g6 n41

def agent_Agent_Load_j1 (C : CT) (K : Cont) (t : Env) (g : G) (n : Nat) : Prop :=
kSplit (t 23) (
kNil (t 0) fun v29 =>
kPtr v29 fun l30 o30 =>
kLd g l30 (o30 + 0) fun v31 =>
C array_Array_Touch_id [v31, (t 1)] g n fun v33 g5 n33 =>
kPtr (t 9) fun l35 o35 =>
kIndexArr (ptr l35 (o35 + 2)) (t 2) 8 1 fun v36 =>
kPtr v36 fun l37 o37 =>
kLd g5 l37 o37 fun v37 =>
aRet K (.tuple #[v37, (.bool true), (.slice none 0 0)]) g5 n33) (
agent_Agent_Load_j2 C K t g n)

def agent_Agent_Load (C : CT) (a0 a1 a2 : Value) (g : G) (n : Nat) (K : Cont) : Prop :=
kBin .ptr .eql a0 (.pointer none) fun v11 =>
kSplit v11 (
aRet K (.tuple #[(.int .u64 0), (.bool false), (.slice none 0 0)]) g n) (
C agent_is_id [a1, a2] g n fun v15 g1 n15 =>
kUn .not v15 fun v16 =>
kSplit v16 (
aRet K (.tuple #[(.int .u64 0), (.bool false), (.slice none 0 0)]) g1 n15) (
C agent_Agent_find_id [a0, a1] g1 n15 fun v20 g2 n20 =>
kNew [(.int .i64 0), (.int .i64 0), (.int .u64 0), (.int .u64 0), (.int .u64 0), (.int .u64 0), (.int .u64 0), (.int .u64 0), (.int .u64 0), (.int .u64 0), (.int .i64 0)] .exact g2 n20 fun l9 g3 n9 =>
kAgg v20 fun cg4 =>
cg4.length = 11 ∧ kStN g3 l9 0 cg4 fun g4 =>
kLd g4 l9 (0 + 0) fun v22 =>
kBin .int .eql v22 (.int .i64 1) fun v24 =>
kSplit v24 (
agent_Agent_Load_j1 C K (puts (args0 [a0, a1, a2]) [(6, (.int .u64 0)), (7, (.bool false)), (8, (.slice none 0 0)), (10, a0), (11, v11), (12, (.bool false)), (13, a1), (14, a2), (15, v15), (16, v16), (17, v16), (18, a0), (19, a1), (20, v20), (9, (ptr l9 0)), (21, (ptr l9 (0 + 0))), (22, v22), (24, v24), (23, v24)]) g4 n9) (
kBin .int .eql v22 (.int .i64 2) fun v25 =>
kSplit v25 (
agent_Agent_Load_j1 C K (puts (args0 [a0, a1, a2]) [(6, (.int .u64 0)), (7, (.bool false)), (8, (.slice none 0 0)), (10, a0), (11, v11), (12, (.bool false)), (13, a1), (14, a2), (15, v15), (16, v16), (17, v16), (18, a0), (19, a1), (20, v20), (9, (ptr l9 0)), (21, (ptr l9 (0 + 0))), (22, v22), (24, v24), (23, v24), (25, v25), (23, v25)]) g4 n9) (
kBin .int .eql v22 (.int .i64 3) fun v26 =>
kSplit v26 (
agent_Agent_Load_j1 C K (puts (args0 [a0, a1, a2]) [(6, (.int .u64 0)), (7, (.bool false)), (8, (.slice none 0 0)), (10, a0), (11, v11), (12, (.bool false)), (13, a1), (14, a2), (15, v15), (16, v16), (17, v16), (18, a0), (19, a1), (20, v20), (9, (ptr l9 0)), (21, (ptr l9 (0 + 0))), (22, v22), (24, v24), (23, v24), (25, v25), (23, v25), (26, v26), (23, v26)]) g4 n9) (
kBin .int .eql v22 (.int .i64 6) fun v27 =>
agent_Agent_Load_j1 C K (puts (args0 [a0, a1, a2]) [(6, (.int .u64 0)), (7, (.bool false)), (8, (.slice none 0 0)), (10, a0), (11, v11), (12, (.bool false)), (13, a1), (14, a2), (15, v15), (16, v16), (17, v16), (18, a0), (19, a1), (20, v20), (9, (ptr l9 0)), (21, (ptr l9 (0 + 0))), (22, v22), (24, v24), (23, v24), (25, v25), (23, v25), (26, v26), (23, v26), (27, v27), (23, v27)]) g4 n9)))))

theorem agent_Agent_Load_eq (C : CT) (a0 a1 a2 : Value) (g : G) (n : Nat) (K : Cont) : agent_Agent_Load C a0 a1 a2 g n K = abody Try.prog C agent_Agent_Load_id [a0, a1, a2] g n K := by kernel_rfl

/- (*bellows/agent.Agent).Hear -/
def agent_Agent_Hear_j4 (C : CT) (K : Cont) (t : Env) (g : G) (n : Nat) : Prop :=
kNil (t 0) fun v66 =>
kPtr v66 fun l67 o67 =>
kLd g l67 (o67 + 0) fun v68 =>
kPtr (t 3) fun l69 o69 =>
kLd g l69 (o69 + 1) fun v70 =>
kPtr (t 8) fun l72 o72 =>
kLdN g l72 o72 8 fun c72 =>
C array_Array_Set_id [v68, v70, (t 7), (.agg c72.toArray)] g n fun v73 g14 n73 =>
kPtr (t 3) fun l74 o74 =>
kLdN g14 l74 o74 12 fun c74 =>
kPtr (t 6) fun l75 o75 =>
kLdN g14 l75 o75 11 fun c75 =>
C agent_answer_id [(.agg c74.toArray), (.agg c75.toArray), (t 7)] g14 n73 fun v77 g15 n77 =>
aRet K (.tuple #[v77, (.int .i64 0)]) g15 n77

def agent_Agent_Hear_j3 (C : CT) (K : Cont) (t : Env) (g : G) (n : Nat) : Prop :=
kSplit (t 59) (
kPtr (t 3) fun l63 o63 =>
kLdN g l63 (o63 + 4) 8 fun c64 =>
kPtr (t 8) fun lg13 og13 =>
kAgg (.agg c64.toArray) fun cg13 =>
cg13.length = 8 ∧ kStN g lg13 og13 cg13 fun g13 =>
agent_Agent_Hear_j4 C K (puts t [(63, (ptr l63 (o63 + 4))), (64, (.agg c64.toArray))]) g13 n) (
agent_Agent_Hear_j4 C K t g n)

def agent_Agent_Hear_j2 (C : CT) (K : Cont) (t : Env) (g : G) (n : Nat) : Prop :=
kPtr (t 3) fun l57 o57 =>
kLd g l57 (o57 + 0) fun v58 =>
kBin .int .eql v58 (.int .i64 8) fun v60 =>
kSplit v60 (
agent_Agent_Hear_j3 C K (puts t [(57, (ptr l57 (o57 + 0))), (58, v58), (60, v60), (59, v60)]) g n) (
kBin .int .eql v58 (.int .i64 9) fun v61 =>
kSplit v61 (
agent_Agent_Hear_j3 C K (puts t [(57, (ptr l57 (o57 + 0))), (58, v58), (60, v60), (59, v60), (61, v61), (59, v61)]) g n) (
kBin .int .eql v58 (.int .i64 10) fun v62 =>
agent_Agent_Hear_j3 C K (puts t [(57, (ptr l57 (o57 + 0))), (58, v58), (60, v60), (59, v60), (61, v61), (59, v61), (62, v62), (59, v62)]) g n))

def agent_Agent_Hear_j1 (C : CT) (K : Cont) (t : Env) (g : G) (n : Nat) : Prop :=
kSplit (t 53) (
kFill [(.int .u64 0), (.int .u64 0), (.int .u64 0), (.int .u64 0), (.int .u64 0), (.int .u64 0), (.int .u64 0), (.int .u64 0)] [] fun c56 =>
kPtr (t 8) fun lg12 og12 =>
kAgg (.agg c56.toArray) fun cg12 =>
cg12.length = 8 ∧ kStN g lg12 og12 cg12 fun g12 =>
agent_Agent_Hear_j2 C K (puts t [(56, (.agg c56.toArray))]) g12 n) (
agent_Agent_Hear_j2 C K t g n)

def agent_Agent_Hear (C : CT) (a0 a1 : Value) (g : G) (n : Nat) (K : Cont) : Prop :=
kAgg a1 fun c3 =>
kNew c3 .exact g n fun l3 g1 n3 =>
kBin .ptr .eql a0 (.pointer none) fun v10 =>
kSplit v10 (
aRet K (.tuple #[(.slice none 0 0), (.int .i64 1)]) g1 n3) (
kLdN g1 l3 0 12 fun c12 =>
C msg_Good_id [(.agg c12.toArray)] g1 n3 fun v13 g2 n13 =>
kUn .not v13 fun v14 =>
kSplit v14 (
aRet K (.tuple #[(.slice none 0 0), (.int .i64 1)]) g2 n13) (
kLd g2 l3 (0 + 0) fun v18 =>
C msg_Tells_id [v18] g2 n13 fun v19 g3 n19 =>
kUn .not v19 fun v20 =>
kSplit v20 (
aRet K (.tuple #[(.slice none 0 0), (.int .i64 1)]) g3 n19) (
kLd g3 l3 (0 + 1) fun v24 =>
C agent_Agent_find_id [a0, v24] g3 n19 fun v25 g4 n25 =>
kNew [(.int .i64 0), (.int .i64 0), (.int .u64 0), (.int .u64 0), (.int .u64 0), (.int .u64 0), (.int .u64 0), (.int .u64 0), (.int .u64 0), (.int .u64 0), (.int .i64 0)] .exact g4 n25 fun l6 g5 n6 =>
kAgg v25 fun cg6 =>
cg6.length = 11 ∧ kStN g5 l6 0 cg6 fun g6 =>
kLd g6 l3 (0 + 0) fun v28 =>
kLd g6 l6 (0 + 0) fun v31 =>
C agent_turns_id [] g6 n6 fun v26 g7 n26 =>
(kPtr (ptr l3 (0 + 0)) fun l _ => g7 l = g6 l) ∧ (kPtr (ptr l6 (0 + 0)) fun l _ => g7 l = g6 l) ∧ kIdx v26 v28 15 10 (some 10) fun v29 =>
kIdx v29 v31 10 1 none fun v32 =>
kLdN g7 l6 (0 + 2) 8 fun c34 =>
kNew [(.int .u64 0), (.int .u64 0), (.int .u64 0), (.int .u64 0), (.int .u64 0), (.int .u64 0), (.int .u64 0), (.int .u64 0)] .exact g7 n26 fun l8 g8 n8 =>
kAgg (.agg c34.toArray) fun cg9 =>
cg9.length = 8 ∧ kStN g8 l8 0 cg9 fun g9 =>
kBin .int .eql v32 (.int .i64 (-1)) fun v37 =>
kSplit v37 (
aRet K (.tuple #[(.slice none 0 0), (.int .i64 16)]) g9 n8) (
kBin .int .eql v32 (.int .i64 (-2)) fun v39 =>
kSplit v39 (
aRet K (.tuple #[(.slice none 0 0), (.int .i64 0)]) g9 n8) (
kBin .int .eql v32 (.int .i64 0) fun v41 =>
kSplit v41 (
kNil a0 fun v43 =>
kPtr v43 fun l44 o44 =>
kLd g9 l44 (o44 + 0) fun v45 =>
kLd g9 l3 (0 + 1) fun v47 =>
C array_Array_Drop_id [v45, v47] g9 n8 fun v48 g10 n48 =>
kLdN g10 l3 0 12 fun c49 =>
kLdN g10 l6 0 11 fun c50 =>
C agent_answer_id [(.agg c49.toArray), (.agg c50.toArray), v32] g10 n48 fun v52 g11 n52 =>
aRet K (.tuple #[v52, (.int .i64 0)]) g11 n52) (
kBin .int .eql v32 (.int .i64 5) fun v54 =>
kSplit v54 (
agent_Agent_Hear_j1 C K (puts (args0 [a0, a1]) [(3, (ptr l3 0)), (4, (.slice none 0 0)), (5, (.int .i64 0)), (9, a0), (10, v10), (11, (.bool false)), (12, (.agg c12.toArray)), (13, v13), (14, v14), (15, v14), (16, (.bool false)), (17, (ptr l3 (0 + 0))), (18, v18), (19, v19), (20, v20), (21, v20), (22, a0), (23, (ptr l3 (0 + 1))), (24, v24), (25, v25), (6, (ptr l6 0)), (27, (ptr l3 (0 + 0))), (28, v28), (30, (ptr l6 (0 + 0))), (31, v31), (26, v26), (29, v29), (32, v32), (7, v32), (33, (ptr l6 (0 + 2))), (34, (.agg c34.toArray)), (8, (ptr l8 0)), (35, v32), (37, v37), (36, v37), (39, v39), (38, v39), (41, v41), (40, v41), (54, v54), (53, v54)]) g9 n8) (
kBin .int .eql v32 (.int .i64 8) fun v55 =>
agent_Agent_Hear_j1 C K (puts (args0 [a0, a1]) [(3, (ptr l3 0)), (4, (.slice none 0 0)), (5, (.int .i64 0)), (9, a0), (10, v10), (11, (.bool false)), (12, (.agg c12.toArray)), (13, v13), (14, v14), (15, v14), (16, (.bool false)), (17, (ptr l3 (0 + 0))), (18, v18), (19, v19), (20, v20), (21, v20), (22, a0), (23, (ptr l3 (0 + 1))), (24, v24), (25, v25), (6, (ptr l6 0)), (27, (ptr l3 (0 + 0))), (28, v28), (30, (ptr l6 (0 + 0))), (31, v31), (26, v26), (29, v29), (32, v32), (7, v32), (33, (ptr l6 (0 + 2))), (34, (.agg c34.toArray)), (8, (ptr l8 0)), (35, v32), (37, v37), (36, v37), (39, v39), (38, v39), (41, v41), (40, v41), (54, v54), (53, v54), (55, v55), (53, v55)]) g9 n8)))))))

theorem agent_Agent_Hear_eq (C : CT) (a0 a1 : Value) (g : G) (n : Nat) (K : Cont) : agent_Agent_Hear C a0 a1 g n K = abody Try.prog C agent_Agent_Hear_id [a0, a1] g n K := by kernel_rfl

/- (*bellows/agent.Agent).Store -/
def agent_Agent_Store (C : CT) (a0 a1 a2 a3 : Value) (g : G) (n : Nat) (K : Cont) : Prop :=
kBin .ptr .eql a0 (.pointer none) fun v12 =>
kSplit v12 (
aRet K (.tuple #[(.bool false), (.slice none 0 0)]) g n) (
C agent_is_id [a1, a2] g n fun v16 g1 n16 =>
kUn .not v16 fun v17 =>
kSplit v17 (
aRet K (.tuple #[(.bool false), (.slice none 0 0)]) g1 n16) (
C agent_Agent_Owns_id [a0, a1] g1 n16 fun v21 g2 n21 =>
kUn .not v21 fun v22 =>
kSplit v22 (
C agent_Agent_Reach_id [a0, a1] g2 n21 fun v25 g3 n25 =>
aRet K (.tuple #[(.bool false), v25]) g3 n25) (
C agent_Agent_find_id [a0, a1] g2 n21 fun v28 g4 n28 =>
kNew [(.int .i64 0), (.int .i64 0), (.int .u64 0), (.int .u64 0), (.int .u64 0), (.int .u64 0), (.int .u64 0), (.int .u64 0), (.int .u64 0), (.int .u64 0), (.int .i64 0)] .exact g4 n28 fun l10 g5 n10 =>
kAgg v28 fun cg6 =>
cg6.length = 11 ∧ kStN g5 l10 0 cg6 fun g6 =>
kIndexArr (ptr l10 (0 + 2)) a2 8 1 fun v32 =>
kPtr v32 fun lg7 og7 =>
kSt g6 lg7 og7 a3 fun g7 =>
kNil a0 fun v34 =>
kPtr v34 fun l35 o35 =>
kLd g7 l35 (o35 + 0) fun v36 =>
kLdN g7 l10 (0 + 2) 8 fun c39 =>
C array_Array_Set_id [v36, a1, (.int .i64 3), (.agg c39.toArray)] g7 n10 fun v40 g8 n40 =>
aRet K (.tuple #[(.bool true), (.slice none 0 0)]) g8 n40)))

theorem agent_Agent_Store_eq (C : CT) (a0 a1 a2 a3 : Value) (g : G) (n : Nat) (K : Cont) : agent_Agent_Store C a0 a1 a2 a3 g n K = abody Try.prog C agent_Agent_Store_id [a0, a1, a2, a3] g n K := by kernel_rfl

/- (*bellows/agent.Agent).Owns -/
def agent_Agent_Owns (C : CT) (a0 a1 : Value) (g : G) (n : Nat) (K : Cont) : Prop :=
kBin .ptr .eql a0 (.pointer none) fun v7 =>
kSplit v7 (
aRet K (.bool false) g n) (
C agent_Agent_find_id [a0, a1] g n fun v10 g1 n10 =>
kNew [(.int .i64 0), (.int .i64 0), (.int .u64 0), (.int .u64 0), (.int .u64 0), (.int .u64 0), (.int .u64 0), (.int .u64 0), (.int .u64 0), (.int .u64 0), (.int .i64 0)] .exact g1 n10 fun l5 g2 n5 =>
kAgg v10 fun cg3 =>
cg3.length = 11 ∧ kStN g2 l5 0 cg3 fun g3 =>
kLd g3 l5 (0 + 0) fun v12 =>
kBin .int .eql v12 (.int .i64 2) fun v13 =>
kSplit v13 (
aRet K (.bool true) g3 n5) (
kLd g3 l5 (0 + 0) fun v16 =>
kBin .int .eql v16 (.int .i64 3) fun v17 =>
aRet K v17 g3 n5))

theorem agent_Agent_Owns_eq (C : CT) (a0 a1 : Value) (g : G) (n : Nat) (K : Cont) : agent_Agent_Owns C a0 a1 g n K = abody Try.prog C agent_Agent_Owns_id [a0, a1] g n K := by kernel_rfl

/- bellows/bellowslaw08.wakes -/
def bellowslaw08_wakes (C : CT) (g : G) (n : Nat) (K : Cont) : Prop :=
C agent_New_id [(.int .i64 1), (.int .i64 1)] g n fun v16 g1 n16 =>
kExtract v16 0 fun v17 =>
kExtract v16 1 fun v18 =>
kBin .int .neq v18 (.int .i64 0) fun v20 =>
kSplit v20 (
aRet K (.bool false) g1 n16) (
kBin .ptr .eql v17 (.pointer none) fun v23 =>
kSplit v23 (
aRet K (.bool false) g1 n16) (
C agent_Agent_Load_id [v17, (.int .i64 3), (.int .i64 2)] g1 n16 fun v27 g2 n27 =>
kExtract v27 0 fun v28 =>
kExtract v27 1 fun v29 =>
kExtract v27 2 fun v30 =>
kFill [(.int .u64 0), (.int .u64 0), (.int .u64 0), (.int .u64 0), (.int .u64 0), (.int .u64 0), (.int .u64 0), (.int .u64 0)] [(0, none, (.int .u64 0)), (1, none, (.int .u64 0)), (2, none, (.int .u64 7))] fun c33 =>
kFill [(.int .i64 0), (.int .i64 0), (.bool false), (.bool false), (.int .u64 0), (.int .u64 0), (.int .u64 0), (.int .u64 0), (.int .u64 0), (.int .u64 0), (.int .u64 0), (.int .u64 0)] [(0, none, (.int .i64 9)), (1, none, (.int .i64 3)), (4, (some 8), (.agg c33.toArray))] fun c34 =>
C agent_Agent_Hear_id [v17, (.agg c34.toArray)] g2 n27 fun v35 g3 n35 =>
kExtract v35 0 fun v36 =>
kExtract v35 1 fun v37 =>
C agent_Agent_Load_id [v17, (.int .i64 3), (.int .i64 2)] g3 n35 fun v40 g4 n40 =>
kExtract v40 0 fun v41 =>
kExtract v40 1 fun v42 =>
kExtract v40 2 fun v43 =>
C agent_Agent_Store_id [v17, (.int .i64 3), (.int .i64 2), (.int .u64 9)] g4 n40 fun v46 g5 n46 =>
kExtract v46 0 fun v47 =>
kExtract v46 1 fun v48 =>
kFill [(.int .i64 0), (.int .i64 0), (.bool false), (.bool false), (.int .u64 0), (.int .u64 0), (.int .u64 0), (.int .u64 0), (.int .u64 0), (.int .u64 0), (.int .u64 0), (.int .u64 0)] [(0, none, (.int .i64 13)), (1, none, (.int .i64 3))] fun c51 =>
C agent_Agent_Hear_id [v17, (.agg c51.toArray)] g5 n46 fun v52 g6 n52 =>
kExtract v52 0 fun v53 =>
kExtract v52 1 fun v54 =>
kUn .not v29 fun v56 =>
kSplit v56 (
kLen v30 fun v59 =>
kBin .int .eql v59 (.int .i64 1) fun v60 =>
kSplit v60 (
kIndexAddr v30 (.int .i64 0) 12 fun v64 =>
kPtr v64 fun l65 o65 =>
kLd g6 l65 (o65 + 0) fun v66 =>
kBin .int .eql v66 (.int .i64 1) fun v67 =>
kSplit v67 (
kBin .int .eql v37 (.int .i64 0) fun v71 =>
kSplit v71 (
kSplit v42 (
kBin .int .eql v41 (.int .u64 7) fun v78 =>
kSplit v78 (
kSplit v47 (
kBin .int .eql v54 (.int .i64 0) fun v85 =>
kSplit v85 (
kLen v53 fun v89 =>
kBin .int .eql v89 (.int .i64 1) fun v90 =>
kSplit v90 (
kIndexAddr v53 (.int .i64 0) 12 fun v94 =>
kPtr v94 fun l95 o95 =>
kLd g6 l95 (o95 + 2) fun v96 =>
kSplit v96 (
kIndexAddr v53 (.int .i64 0) 12 fun v100 =>
kPtr v100 fun l101 o101 =>
kIndexArr (ptr l101 (o101 + 4)) (.int .i64 2) 8 1 fun v102 =>
kPtr v102 fun l103 o103 =>
kLd g6 l103 o103 fun v103 =>
kBin .int .eql v103 (.int .u64 9) fun v104 =>
kSplit v104 (
C agent_Agent_Idle_id [v17] g6 n52 fun v108 g7 n108 =>
kSplit v108 (
C agent_Agent_Owns_id [v17, (.int .i64 3)] g7 n108 fun v112 g8 n112 =>
kUn .not v112 fun v113 =>
aRet K v113 g8 n112) (
aRet K (.bool false) g7 n108)) (
aRet K (.bool false) g6 n52)) (
aRet K (.bool false) g6 n52)) (
aRet K (.bool false) g6 n52)) (
aRet K (.bool false) g6 n52)) (
aRet K (.bool false) g6 n52)) (
aRet K (.bool false) g6 n52)) (
aRet K (.bool false) g6 n52)) (
aRet K (.bool false) g6 n52)) (
aRet K (.bool false) g6 n52)) (
aRet K (.bool false) g6 n52)) (
aRet K (.bool false) g6 n52)))

theorem bellowslaw08_wakes_eq (C : CT) (g : G) (n : Nat) (K : Cont) : bellowslaw08_wakes C g n K = abody Try.prog C bellowslaw08_wakes_id [] g n K := by kernel_rfl

/- (*bellows/agent.Agent).Slots -/
def agent_Agent_Slots (C : CT) (a0 : Value) (g : G) (n : Nat) (K : Cont) : Prop :=
kBin .ptr .eql a0 (.pointer none) fun v4 =>
kSplit v4 (
aRet K (.slice none 0 0) g n) (
kNil a0 fun v6 =>
kPtr v6 fun l7 o7 =>
kLd g l7 (o7 + 0) fun v8 =>
C array_Array_Slots_id [v8] g n fun v9 g1 n9 =>
aRet K v9 g1 n9)

theorem agent_Agent_Slots_eq (C : CT) (a0 : Value) (g : G) (n : Nat) (K : Cont) : agent_Agent_Slots C a0 g n K = abody Try.prog C agent_Agent_Slots_id [a0] g n K := by kernel_rfl

/- (*bellows/agent.Agent).Evict -/
def agent_Agent_Evict (C : CT) (a0 a1 : Value) (g : G) (n : Nat) (K : Cont) : Prop :=
kBin .ptr .eql a0 (.pointer none) fun v8 =>
kSplit v8 (
aRet K (.tuple #[(.slice none 0 0), (.int .i64 1)]) g n) (
C agent_Agent_Idle_id [a0] g n fun v10 g1 n10 =>
kUn .not v10 fun v11 =>
kSplit v11 (
aRet K (.tuple #[(.slice none 0 0), (.int .i64 15)]) g1 n10) (
C agent_Agent_find_id [a0, a1] g1 n10 fun v14 g2 n14 =>
kNew [(.int .i64 0), (.int .i64 0), (.int .u64 0), (.int .u64 0), (.int .u64 0), (.int .u64 0), (.int .u64 0), (.int .u64 0), (.int .u64 0), (.int .u64 0), (.int .i64 0)] .exact g2 n14 fun l6 g3 n6 =>
kAgg v14 fun cg4 =>
cg4.length = 11 ∧ kStN g3 l6 0 cg4 fun g4 =>
kLd g4 l6 (0 + 0) fun v16 =>
kBin .int .eql v16 (.int .i64 0) fun v17 =>
kSplit v17 (
aRet K (.tuple #[(.slice none 0 0), (.int .i64 14)]) g4 n6) (
kLdN g4 l6 0 11 fun c19 =>
C agent_Agent_out_id [a0, (.agg c19.toArray)] g4 n6 fun v20 g5 n20 =>
aRet K (.tuple #[v20, (.int .i64 0)]) g5 n20)))

theorem agent_Agent_Evict_eq (C : CT) (a0 a1 : Value) (g : G) (n : Nat) (K : Cont) : agent_Agent_Evict C a0 a1 g n K = abody Try.prog C agent_Agent_Evict_id [a0, a1] g n K := by kernel_rfl

/- (*bellows/agent.Agent).Idle -/
def agent_Agent_Idle (C : CT) (a0 : Value) (g : G) (n : Nat) (K : Cont) : Prop :=
kBin .ptr .eql a0 (.pointer none) fun v4 =>
kSplit v4 (
aRet K (.bool true) g n) (
kNil a0 fun v7 =>
kPtr v7 fun l8 o8 =>
kLd g l8 (o8 + 0) fun v9 =>
C array_Array_Slots_id [v9] g n fun v10 g1 n10 =>
C slices_ContainsFunc_array_Slot_array_Slot_id [v10, (.func (.func agent_Agent_Idle_1_id) #[] #[])] g1 n10 fun v11 g2 n11 =>
kUn .not v11 fun v12 =>
aRet K v12 g2 n11)

theorem agent_Agent_Idle_eq (C : CT) (a0 : Value) (g : G) (n : Nat) (K : Cont) : agent_Agent_Idle C a0 g n K = abody Try.prog C agent_Agent_Idle_id [a0] g n K := by kernel_rfl

/- (*bellows/agent.Agent).Reach -/
def agent_Agent_Reach (C : CT) (a0 a1 : Value) (g : G) (n : Nat) (K : Cont) : Prop :=
kBin .ptr .eql a0 (.pointer none) fun v7 =>
kSplit v7 (
aRet K (.slice none 0 0) g n) (
C agent_is_id [a1, (.int .i64 0)] g n fun v10 g1 n10 =>
kUn .not v10 fun v11 =>
kSplit v11 (
aRet K (.slice none 0 0) g1 n10) (
C agent_Agent_Owns_id [a0, a1] g1 n10 fun v16 g2 n16 =>
kSplit v16 (
aRet K (.slice none 0 0) g2 n16) (
C agent_Agent_find_id [a0, a1] g2 n16 fun v20 g3 n20 =>
kNew [(.int .i64 0), (.int .i64 0), (.int .u64 0), (.int .u64 0), (.int .u64 0), (.int .u64 0), (.int .u64 0), (.int .u64 0), (.int .u64 0), (.int .u64 0), (.int .i64 0)] .exact g3 n20 fun l5 g4 n5 =>
kAgg v20 fun cg5 =>
cg5.length = 11 ∧ kStN g4 l5 0 cg5 fun g5 =>
kLd g5 l5 (0 + 0) fun v22 =>
kBin .int .eql v22 (.int .i64 1) fun v23 =>
kSplit v23 (
kLdN g5 l5 (0 + 2) 8 fun c27 =>
C agent_Agent_ask_id [a0, a1, (.int .i64 6), (.int .i64 2), (.agg c27.toArray)] g5 n5 fun v28 g6 n28 =>
aRet K v28 g6 n28) (
kFill [(.int .u64 0), (.int .u64 0), (.int .u64 0), (.int .u64 0), (.int .u64 0), (.int .u64 0), (.int .u64 0), (.int .u64 0)] [] fun c31 =>
C agent_Agent_ask_id [a0, a1, (.int .i64 5), (.int .i64 2), (.agg c31.toArray)] g5 n5 fun v32 g7 n32 =>
aRet K v32 g7 n32))))

theorem agent_Agent_Reach_eq (C : CT) (a0 a1 : Value) (g : G) (n : Nat) (K : Cont) : agent_Agent_Reach C a0 a1 g n K = abody Try.prog C agent_Agent_Reach_id [a0, a1] g n K := by kernel_rfl

/- bellows/bellowsref08.New -/
def bellowsref08_New (C : CT) (a0 a1 : Value) (g : G) (n : Nat) (K : Cont) : Prop :=
C bellowsref05_New_id [a0, a1] g n fun v11 g1 n11 =>
kExtract v11 0 fun v12 =>
kExtract v11 1 fun v13 =>
kBin .int .neq v13 (.int .i64 0) fun v15 =>
kSplit v15 (
aRet K (.tuple #[(.pointer none), v13]) g1 n11) (
kFill [(.pointer none)] [(0, none, v12)] fun c18 =>
kAgg (.agg c18.toArray) fun c19 =>
kNew c19 .exact g1 n11 fun l19 g2 n19 =>
aRet K (.tuple #[(ptr l19 0), (.int .i64 0)]) g2 n19)

theorem bellowsref08_New_eq (C : CT) (a0 a1 : Value) (g : G) (n : Nat) (K : Cont) : bellowsref08_New C a0 a1 g n K = abody Try.prog C bellowsref08_New_id [a0, a1] g n K := by kernel_rfl

/- (*bellows/bellowsref08.Agent).Load -/
def bellowsref08_Agent_Load (C : CT) (a0 a1 a2 : Value) (g : G) (n : Nat) (K : Cont) : Prop :=
kNew [(.int .u64 0), (.bool false), (.slice none 0 0)] .exact g n fun l6 g1 n6 =>
C bellowsref08_there_id [a1, a2] g1 n6 fun v10 g2 n10 =>
kUn .not v10 fun v11 =>
kSplit v11 (
kFill [(.int .u64 0), (.bool false), (.slice none 0 0)] [] fun c12 =>
kAgg (.agg c12.toArray) fun cg3 =>
cg3.length = 3 ∧ kStN g2 l6 0 cg3 fun g3 =>
kLdN g3 l6 0 3 fun r0 =>
aRet K (.agg r0.toArray) g3 n10) (
C bellowsref08_Agent_Slot_id [a0, a1] g2 n10 fun v15 g4 n15 =>
kNew [(.int .i64 0), (.int .i64 0), (.int .u64 0), (.int .u64 0), (.int .u64 0), (.int .u64 0), (.int .u64 0), (.int .u64 0), (.int .u64 0), (.int .u64 0), (.int .i64 0)] .exact g4 n15 fun l7 g5 n7 =>
kAgg v15 fun cg6 =>
cg6.length = 11 ∧ kStN g5 l7 0 cg6 fun g6 =>
kLd g6 l7 (0 + 0) fun v17 =>
kBin .int .eql v17 (.int .i64 1) fun v18 =>
kSplit v18 (
kNil a0 fun v35 =>
kPtr v35 fun l36 o36 =>
kLd g6 l36 (o36 + 0) fun v37 =>
C bellowsref05_Array_Touch_id [v37, a1] g6 n7 fun v39 g7 n39 =>
kIndexArr (ptr l7 (0 + 2)) a2 8 1 fun v42 =>
kPtr v42 fun l43 o43 =>
kLd g7 l43 o43 fun v43 =>
kFill [(.int .u64 0), (.bool false), (.slice none 0 0)] [(0, none, v43), (1, none, (.bool true))] fun c44 =>
kAgg (.agg c44.toArray) fun cg8 =>
cg8.length = 3 ∧ kStN g7 l6 0 cg8 fun g8 =>
kLdN g8 l6 0 3 fun r0 =>
aRet K (.agg r0.toArray) g8 n39) (
kLd g6 l7 (0 + 0) fun v21 =>
kBin .int .eql v21 (.int .i64 2) fun v22 =>
kSplit v22 (
kNil a0 fun v35 =>
kPtr v35 fun l36 o36 =>
kLd g6 l36 (o36 + 0) fun v37 =>
C bellowsref05_Array_Touch_id [v37, a1] g6 n7 fun v39 g9 n39 =>
kIndexArr (ptr l7 (0 + 2)) a2 8 1 fun v42 =>
kPtr v42 fun l43 o43 =>
kLd g9 l43 o43 fun v43 =>
kFill [(.int .u64 0), (.bool false), (.slice none 0 0)] [(0, none, v43), (1, none, (.bool true))] fun c44 =>
kAgg (.agg c44.toArray) fun cg10 =>
cg10.length = 3 ∧ kStN g9 l6 0 cg10 fun g10 =>
kLdN g10 l6 0 3 fun r0 =>
aRet K (.agg r0.toArray) g10 n39) (
kLd g6 l7 (0 + 0) fun v26 =>
kBin .int .eql v26 (.int .i64 3) fun v27 =>
kSplit v27 (
kNil a0 fun v35 =>
kPtr v35 fun l36 o36 =>
kLd g6 l36 (o36 + 0) fun v37 =>
C bellowsref05_Array_Touch_id [v37, a1] g6 n7 fun v39 g11 n39 =>
kIndexArr (ptr l7 (0 + 2)) a2 8 1 fun v42 =>
kPtr v42 fun l43 o43 =>
kLd g11 l43 o43 fun v43 =>
kFill [(.int .u64 0), (.bool false), (.slice none 0 0)] [(0, none, v43), (1, none, (.bool true))] fun c44 =>
kAgg (.agg c44.toArray) fun cg12 =>
cg12.length = 3 ∧ kStN g11 l6 0 cg12 fun g12 =>
kLdN g12 l6 0 3 fun r0 =>
aRet K (.agg r0.toArray) g12 n39) (
kLd g6 l7 (0 + 0) fun v31 =>
kBin .int .eql v31 (.int .i64 6) fun v32 =>
kSplit v32 (
kNil a0 fun v35 =>
kPtr v35 fun l36 o36 =>
kLd g6 l36 (o36 + 0) fun v37 =>
C bellowsref05_Array_Touch_id [v37, a1] g6 n7 fun v39 g13 n39 =>
kIndexArr (ptr l7 (0 + 2)) a2 8 1 fun v42 =>
kPtr v42 fun l43 o43 =>
kLd g13 l43 o43 fun v43 =>
kFill [(.int .u64 0), (.bool false), (.slice none 0 0)] [(0, none, v43), (1, none, (.bool true))] fun c44 =>
kAgg (.agg c44.toArray) fun cg14 =>
cg14.length = 3 ∧ kStN g13 l6 0 cg14 fun g14 =>
kLdN g14 l6 0 3 fun r0 =>
aRet K (.agg r0.toArray) g14 n39) (
kLd g6 l7 (0 + 0) fun v46 =>
kBin .int .neq v46 (.int .i64 0) fun v47 =>
kSplit v47 (
kFill [(.int .u64 0), (.bool false), (.slice none 0 0)] [] fun c48 =>
kAgg (.agg c48.toArray) fun cg15 =>
cg15.length = 3 ∧ kStN g6 l6 0 cg15 fun g15 =>
kLdN g15 l6 0 3 fun r0 =>
aRet K (.agg r0.toArray) g15 n7) (
C bellowsref08_Agent_miss_id [a0, a1, (.int .i64 4), (.int .i64 1)] g6 n7 fun v51 g16 n51 =>
kFill [(.int .u64 0), (.bool false), (.slice none 0 0)] [(2, none, v51)] fun c52 =>
kAgg (.agg c52.toArray) fun cg17 =>
cg17.length = 3 ∧ kStN g16 l6 0 cg17 fun g17 =>
kLdN g17 l6 0 3 fun r0 =>
aRet K (.agg r0.toArray) g17 n51))))))

theorem bellowsref08_Agent_Load_eq (C : CT) (a0 a1 a2 : Value) (g : G) (n : Nat) (K : Cont) : bellowsref08_Agent_Load C a0 a1 a2 g n K = abody Try.prog C bellowsref08_Agent_Load_id [a0, a1, a2] g n K := by kernel_rfl

/- bellows/bellowskeep.Msgs -/
def bellowskeep_Msgs_l1 (C : CT) (K : Cont) (I_l1 : ECont) (t : Env) (g : G) (n : Nat) : Prop :=
kLen (t 0) fun v13 =>
kBin .int .lss (t 5) v13 fun v14 =>
kSplit v14 (
kIndexAddr (t 0) (t 5) 12 fun v19 =>
kPtr v19 fun l20 o20 =>
kLdN g l20 o20 12 fun c20 =>
kIndexAddr (t 1) (t 5) 12 fun v23 =>
kPtr v23 fun l24 o24 =>
kLdN g l24 o24 12 fun c24 =>
kBin (.agg [.i, .i, .b, .b, .i, .i, .i, .i, .i, .i, .i, .i]) .neq (.agg c20.toArray) (.agg c24.toArray) fun v25 =>
kSplit v25 (
aRet K (.bool false) g n) (
kBin .int .add (t 5) (.int .i64 1) fun v16 =>
I_l1 (puts t [(11, (t 5)), (12, (t 0)), (13, v13), (14, v14), (17, (t 0)), (18, (t 5)), (19, v19), (20, (.agg c20.toArray)), (21, (t 1)), (22, (t 5)), (23, v23), (24, (.agg c24.toArray)), (25, v25), (15, (t 5)), (16, v16), (5, v16)]) g n)) (
aRet K (.bool true) g n)

def bellowskeep_Msgs (C : CT) (a0 a1 : Value) (g : G) (n : Nat) (K : Cont) : Prop :=
kLen a0 fun v7 =>
kLen a1 fun v9 =>
kBin .int .neq v7 v9 fun v10 =>
kSplit v10 (
aRet K (.bool false) g n) (
lfp (bellowskeep_Msgs_l1 C K) (puts (args0 [a0, a1]) [(4, (.bool false)), (6, a0), (7, v7), (8, a1), (9, v9), (10, v10), (5, (.int .i64 0))]) g n)

theorem bellowskeep_Msgs_eq (C : CT) (a0 a1 : Value) (g : G) (n : Nat) (K : Cont) : bellowskeep_Msgs C a0 a1 g n K = abody Try.prog C bellowskeep_Msgs_id [a0, a1] g n K := by kernel_rfl

/- (*bellows/bellowsref08.Agent).Store -/
def bellowsref08_Agent_Store (C : CT) (a0 a1 a2 a3 : Value) (g : G) (n : Nat) (K : Cont) : Prop :=
C bellowsref08_there_id [a1, a2] g n fun v13 g1 n13 =>
kUn .not v13 fun v14 =>
kSplit v14 (
aRet K (.tuple #[(.bool false), (.slice none 0 0)]) g1 n13) (
C bellowsref08_Agent_Owns_id [a0, a1] g1 n13 fun v17 g2 n17 =>
kSplit v17 (
C bellowsref08_Agent_Slot_id [a0, a1] g2 n17 fun v20 g3 n20 =>
kAgg v20 fun c21 =>
kPart c21 2 (some 8) fun v21 =>
kNew [(.int .u64 0), (.int .u64 0), (.int .u64 0), (.int .u64 0), (.int .u64 0), (.int .u64 0), (.int .u64 0), (.int .u64 0)] .exact g3 n20 fun l10 g4 n10 =>
kAgg v21 fun cg5 =>
cg5.length = 8 ∧ kStN g4 l10 0 cg5 fun g5 =>
kIndexArr (ptr l10 0) a2 8 1 fun v24 =>
kPtr v24 fun lg6 og6 =>
kSt g5 lg6 og6 a3 fun g6 =>
kNil a0 fun v26 =>
kPtr v26 fun l27 o27 =>
kLd g6 l27 (o27 + 0) fun v28 =>
kLdN g6 l10 0 8 fun c30 =>
C bellowsref05_Array_Set_id [v28, a1, (.int .i64 3), (.agg c30.toArray)] g6 n10 fun v31 g7 n31 =>
aRet K (.tuple #[(.bool true), (.slice none 0 0)]) g7 n31) (
C bellowsref08_Agent_Reach_id [a0, a1] g2 n17 fun v34 g8 n34 =>
aRet K (.tuple #[(.bool false), v34]) g8 n34))

theorem bellowsref08_Agent_Store_eq (C : CT) (a0 a1 a2 a3 : Value) (g : G) (n : Nat) (K : Cont) : bellowsref08_Agent_Store C a0 a1 a2 a3 g n K = abody Try.prog C bellowsref08_Agent_Store_id [a0, a1, a2, a3] g n K := by kernel_rfl

/- (*bellows/bellowsref08.Agent).Hear -/
def bellowsref08_Agent_Hear_j1 (C : CT) (K : Cont) (t : Env) (g : G) (n : Nat) : Prop :=
kSplit (t 41) (
kNil (t 0) fun v64 =>
kPtr v64 fun l65 o65 =>
kLd g l65 (o65 + 0) fun v66 =>
kPtr (t 3) fun l67 o67 =>
kLd g l67 (o67 + 1) fun v68 =>
kPtr (t 3) fun l69 o69 =>
kLdN g l69 (o69 + 4) 8 fun c70 =>
C bellowsref05_Array_Set_id [v66, v68, (.int .i64 2), (.agg c70.toArray)] g n fun v71 g8 n71 =>
aRet K (.tuple #[(.slice none 0 0), (.int .i64 0)]) g8 n71) (
kPtr (t 3) fun l73 o73 =>
kLd g l73 (o73 + 0) fun v74 =>
kBin .int .eql v74 (.int .i64 11) fun v75 =>
kSplit v75 (
kPtr (t 6) fun l77 o77 =>
kLd g l77 (o77 + 0) fun v78 =>
kBin .int .eql v78 (.int .i64 7) fun v79 =>
kSplit v79 (
kNil (t 0) fun v92 =>
kPtr v92 fun l93 o93 =>
kLd g l93 (o93 + 0) fun v94 =>
kPtr (t 3) fun l95 o95 =>
kLd g l95 (o95 + 1) fun v96 =>
C bellowsref05_Array_Drop_id [v94, v96] g n fun v97 g9 n97 =>
aRet K (.tuple #[(.slice none 0 0), (.int .i64 0)]) g9 n97) (
kPtr (t 6) fun l81 o81 =>
kLd g l81 (o81 + 0) fun v82 =>
kBin .int .eql v82 (.int .i64 9) fun v83 =>
kSplit v83 (
kNil (t 0) fun v92 =>
kPtr v92 fun l93 o93 =>
kLd g l93 (o93 + 0) fun v94 =>
kPtr (t 3) fun l95 o95 =>
kLd g l95 (o95 + 1) fun v96 =>
C bellowsref05_Array_Drop_id [v94, v96] g n fun v97 g10 n97 =>
aRet K (.tuple #[(.slice none 0 0), (.int .i64 0)]) g10 n97) (
kPtr (t 6) fun l86 o86 =>
kLd g l86 (o86 + 0) fun v87 =>
kBin .int .eql v87 (.int .i64 8) fun v88 =>
kSplit v88 (
kNil (t 0) fun v92 =>
kPtr v92 fun l93 o93 =>
kLd g l93 (o93 + 0) fun v94 =>
kPtr (t 3) fun l95 o95 =>
kLd g l95 (o95 + 1) fun v96 =>
C bellowsref05_Array_Drop_id [v94, v96] g n fun v97 g11 n97 =>
aRet K (.tuple #[(.slice none 0 0), (.int .i64 0)]) g11 n97) (
kPtr (t 3) fun l99 o99 =>
kLd g l99 (o99 + 0) fun v100 =>
kBin .int .eql v100 (.int .i64 12) fun v101 =>
kSplit v101 (
kPtr (t 6) fun l103 o103 =>
kLdN g l103 o103 11 fun c103 =>
kPtr (t 3) fun l104 o104 =>
kLd g l104 (o104 + 1) fun v105 =>
C bellowsref08_Agent_lose_id [(t 0), (.agg c103.toArray), v105] g n fun v106 g12 n106 =>
kExtract v106 0 fun v107 =>
kExtract v106 1 fun v108 =>
aRet K (.tuple #[v107, v108]) g12 n106) (
kPtr (t 3) fun l110 o110 =>
kLd g l110 (o110 + 0) fun v111 =>
kBin .int .eql v111 (.int .i64 13) fun v112 =>
kSplit v112 (
kPtr (t 6) fun l114 o114 =>
kLdN g l114 o114 11 fun c114 =>
kPtr (t 3) fun l115 o115 =>
kLd g l115 (o115 + 1) fun v116 =>
C bellowsref08_Agent_share_id [(t 0), (.agg c114.toArray), v116] g n fun v117 g13 n117 =>
kExtract v117 0 fun v118 =>
kExtract v117 1 fun v119 =>
aRet K (.tuple #[v118, v119]) g13 n117) (
aRet K (.tuple #[(.slice none 0 0), (.int .i64 16)]) g n)))))) (
kPtr (t 3) fun l99 o99 =>
kLd g l99 (o99 + 0) fun v100 =>
kBin .int .eql v100 (.int .i64 12) fun v101 =>
kSplit v101 (
kPtr (t 6) fun l103 o103 =>
kLdN g l103 o103 11 fun c103 =>
kPtr (t 3) fun l104 o104 =>
kLd g l104 (o104 + 1) fun v105 =>
C bellowsref08_Agent_lose_id [(t 0), (.agg c103.toArray), v105] g n fun v106 g14 n106 =>
kExtract v106 0 fun v107 =>
kExtract v106 1 fun v108 =>
aRet K (.tuple #[v107, v108]) g14 n106) (
kPtr (t 3) fun l110 o110 =>
kLd g l110 (o110 + 0) fun v111 =>
kBin .int .eql v111 (.int .i64 13) fun v112 =>
kSplit v112 (
kPtr (t 6) fun l114 o114 =>
kLdN g l114 o114 11 fun c114 =>
kPtr (t 3) fun l115 o115 =>
kLd g l115 (o115 + 1) fun v116 =>
C bellowsref08_Agent_share_id [(t 0), (.agg c114.toArray), v116] g n fun v117 g15 n117 =>
kExtract v117 0 fun v118 =>
kExtract v117 1 fun v119 =>
aRet K (.tuple #[v118, v119]) g15 n117) (
aRet K (.tuple #[(.slice none 0 0), (.int .i64 16)]) g n))))

def bellowsref08_Agent_Hear (C : CT) (a0 a1 : Value) (g : G) (n : Nat) (K : Cont) : Prop :=
kAgg a1 fun c3 =>
kNew c3 .exact g n fun l3 g1 n3 =>
kLdN g1 l3 0 12 fun c7 =>
C bellowsref06_Good_id [(.agg c7.toArray)] g1 n3 fun v8 g2 n8 =>
kUn .not v8 fun v9 =>
kSplit v9 (
aRet K (.tuple #[(.slice none 0 0), (.int .i64 1)]) g2 n8) (
kLd g2 l3 (0 + 0) fun v12 =>
C bellowsref06_Tells_id [v12] g2 n8 fun v13 g3 n13 =>
kUn .not v13 fun v14 =>
kSplit v14 (
aRet K (.tuple #[(.slice none 0 0), (.int .i64 1)]) g3 n13) (
kLd g3 l3 (0 + 0) fun v17 =>
kBin .int .eql v17 (.int .i64 14) fun v18 =>
kSplit v18 (
aRet K (.tuple #[(.slice none 0 0), (.int .i64 0)]) g3 n13) (
kLd g3 l3 (0 + 1) fun v21 =>
C bellowsref08_Agent_Slot_id [a0, v21] g3 n13 fun v22 g4 n22 =>
kNew [(.int .i64 0), (.int .i64 0), (.int .u64 0), (.int .u64 0), (.int .u64 0), (.int .u64 0), (.int .u64 0), (.int .u64 0), (.int .u64 0), (.int .u64 0), (.int .i64 0)] .exact g4 n22 fun l6 g5 n6 =>
kAgg v22 fun cg6 =>
cg6.length = 11 ∧ kStN g5 l6 0 cg6 fun g6 =>
kLd g6 l3 (0 + 0) fun v25 =>
kBin .int .eql v25 (.int .i64 8) fun v26 =>
kSplit v26 (
kLd g6 l6 (0 + 0) fun v29 =>
kBin .int .eql v29 (.int .i64 4) fun v30 =>
kSplit v30 (
kNil a0 fun v33 =>
kPtr v33 fun l34 o34 =>
kLd g6 l34 (o34 + 0) fun v35 =>
kLd g6 l3 (0 + 1) fun v37 =>
kLdN g6 l3 (0 + 4) 8 fun c39 =>
C bellowsref05_Array_Set_id [v35, v37, (.int .i64 1), (.agg c39.toArray)] g6 n6 fun v40 g7 n40 =>
aRet K (.tuple #[(.slice none 0 0), (.int .i64 0)]) g7 n40) (
kLd g6 l3 (0 + 0) fun v43 =>
kBin .int .eql v43 (.int .i64 9) fun v44 =>
kSplit v44 (
kLd g6 l6 (0 + 0) fun v47 =>
kBin .int .eql v47 (.int .i64 4) fun v48 =>
kSplit v48 (
bellowsref08_Agent_Hear_j1 C K (puts (args0 [a0, a1]) [(3, (ptr l3 0)), (4, (.slice none 0 0)), (5, (.int .i64 0)), (7, (.agg c7.toArray)), (8, v8), (9, v9), (10, (.bool false)), (11, (ptr l3 (0 + 0))), (12, v12), (13, v13), (14, v14), (15, v14), (16, (ptr l3 (0 + 0))), (17, v17), (18, v18), (19, a0), (20, (ptr l3 (0 + 1))), (21, v21), (22, v22), (6, (ptr l6 0)), (24, (ptr l3 (0 + 0))), (25, v25), (26, v26), (27, (.bool true)), (28, (ptr l6 (0 + 0))), (29, v29), (30, v30), (31, v30), (23, v30), (42, (ptr l3 (0 + 0))), (43, v43), (44, v44), (45, (.bool true)), (46, (ptr l6 (0 + 0))), (47, v47), (48, v48), (49, v48), (41, v48)]) g6 n6) (
kLd g6 l3 (0 + 0) fun v51 =>
kBin .int .eql v51 (.int .i64 10) fun v52 =>
kSplit v52 (
kLd g6 l6 (0 + 0) fun v55 =>
kBin .int .eql v55 (.int .i64 5) fun v56 =>
kSplit v56 (
bellowsref08_Agent_Hear_j1 C K (puts (args0 [a0, a1]) [(3, (ptr l3 0)), (4, (.slice none 0 0)), (5, (.int .i64 0)), (7, (.agg c7.toArray)), (8, v8), (9, v9), (10, (.bool false)), (11, (ptr l3 (0 + 0))), (12, v12), (13, v13), (14, v14), (15, v14), (16, (ptr l3 (0 + 0))), (17, v17), (18, v18), (19, a0), (20, (ptr l3 (0 + 1))), (21, v21), (22, v22), (6, (ptr l6 0)), (24, (ptr l3 (0 + 0))), (25, v25), (26, v26), (27, (.bool true)), (28, (ptr l6 (0 + 0))), (29, v29), (30, v30), (31, v30), (23, v30), (42, (ptr l3 (0 + 0))), (43, v43), (44, v44), (45, (.bool true)), (46, (ptr l6 (0 + 0))), (47, v47), (48, v48), (49, v48), (41, v48), (50, (ptr l3 (0 + 0))), (51, v51), (52, v52), (53, (.bool true)), (54, (ptr l6 (0 + 0))), (55, v55), (56, v56), (57, (.bool true)), (58, undef), (59, undef), (60, undef), (61, (.bool true)), (62, (.bool true)), (41, (.bool true))]) g6 n6) (
kLd g6 l6 (0 + 0) fun v59 =>
kBin .int .eql v59 (.int .i64 6) fun v60 =>
bellowsref08_Agent_Hear_j1 C K (puts (args0 [a0, a1]) [(3, (ptr l3 0)), (4, (.slice none 0 0)), (5, (.int .i64 0)), (7, (.agg c7.toArray)), (8, v8), (9, v9), (10, (.bool false)), (11, (ptr l3 (0 + 0))), (12, v12), (13, v13), (14, v14), (15, v14), (16, (ptr l3 (0 + 0))), (17, v17), (18, v18), (19, a0), (20, (ptr l3 (0 + 1))), (21, v21), (22, v22), (6, (ptr l6 0)), (24, (ptr l3 (0 + 0))), (25, v25), (26, v26), (27, (.bool true)), (28, (ptr l6 (0 + 0))), (29, v29), (30, v30), (31, v30), (23, v30), (42, (ptr l3 (0 + 0))), (43, v43), (44, v44), (45, (.bool true)), (46, (ptr l6 (0 + 0))), (47, v47), (48, v48), (49, v48), (41, v48), (50, (ptr l3 (0 + 0))), (51, v51), (52, v52), (53, (.bool true)), (54, (ptr l6 (0 + 0))), (55, v55), (56, v56), (57, (.bool false)), (58, (ptr l6 (0 + 0))), (59, v59), (60, v60), (61, v60), (62, v60), (41, v60)]) g6 n6)) (
bellowsref08_Agent_Hear_j1 C K (puts (args0 [a0, a1]) [(3, (ptr l3 0)), (4, (.slice none 0 0)), (5, (.int .i64 0)), (7, (.agg c7.toArray)), (8, v8), (9, v9), (10, (.bool false)), (11, (ptr l3 (0 + 0))), (12, v12), (13, v13), (14, v14), (15, v14), (16, (ptr l3 (0 + 0))), (17, v17), (18, v18), (19, a0), (20, (ptr l3 (0 + 1))), (21, v21), (22, v22), (6, (ptr l6 0)), (24, (ptr l3 (0 + 0))), (25, v25), (26, v26), (27, (.bool true)), (28, (ptr l6 (0 + 0))), (29, v29), (30, v30), (31, v30), (23, v30), (42, (ptr l3 (0 + 0))), (43, v43), (44, v44), (45, (.bool true)), (46, (ptr l6 (0 + 0))), (47, v47), (48, v48), (49, v48), (41, v48), (50, (ptr l3 (0 + 0))), (51, v51), (52, v52), (53, (.bool false)), (54, undef), (55, undef), (56, undef), (57, undef), (58, undef), (59, undef), (60, undef), (61, undef), (62, (.bool false)), (41, (.bool false))]) g6 n6))) (
kLd g6 l3 (0 + 0) fun v51 =>
kBin .int .eql v51 (.int .i64 10) fun v52 =>
kSplit v52 (
kLd g6 l6 (0 + 0) fun v55 =>
kBin .int .eql v55 (.int .i64 5) fun v56 =>
kSplit v56 (
bellowsref08_Agent_Hear_j1 C K (puts (args0 [a0, a1]) [(3, (ptr l3 0)), (4, (.slice none 0 0)), (5, (.int .i64 0)), (7, (.agg c7.toArray)), (8, v8), (9, v9), (10, (.bool false)), (11, (ptr l3 (0 + 0))), (12, v12), (13, v13), (14, v14), (15, v14), (16, (ptr l3 (0 + 0))), (17, v17), (18, v18), (19, a0), (20, (ptr l3 (0 + 1))), (21, v21), (22, v22), (6, (ptr l6 0)), (24, (ptr l3 (0 + 0))), (25, v25), (26, v26), (27, (.bool true)), (28, (ptr l6 (0 + 0))), (29, v29), (30, v30), (31, v30), (23, v30), (42, (ptr l3 (0 + 0))), (43, v43), (44, v44), (45, (.bool false)), (46, undef), (47, undef), (48, undef), (49, (.bool false)), (41, (.bool false)), (50, (ptr l3 (0 + 0))), (51, v51), (52, v52), (53, (.bool true)), (54, (ptr l6 (0 + 0))), (55, v55), (56, v56), (57, (.bool true)), (58, undef), (59, undef), (60, undef), (61, (.bool true)), (62, (.bool true)), (41, (.bool true))]) g6 n6) (
kLd g6 l6 (0 + 0) fun v59 =>
kBin .int .eql v59 (.int .i64 6) fun v60 =>
bellowsref08_Agent_Hear_j1 C K (puts (args0 [a0, a1]) [(3, (ptr l3 0)), (4, (.slice none 0 0)), (5, (.int .i64 0)), (7, (.agg c7.toArray)), (8, v8), (9, v9), (10, (.bool false)), (11, (ptr l3 (0 + 0))), (12, v12), (13, v13), (14, v14), (15, v14), (16, (ptr l3 (0 + 0))), (17, v17), (18, v18), (19, a0), (20, (ptr l3 (0 + 1))), (21, v21), (22, v22), (6, (ptr l6 0)), (24, (ptr l3 (0 + 0))), (25, v25), (26, v26), (27, (.bool true)), (28, (ptr l6 (0 + 0))), (29, v29), (30, v30), (31, v30), (23, v30), (42, (ptr l3 (0 + 0))), (43, v43), (44, v44), (45, (.bool false)), (46, undef), (47, undef), (48, undef), (49, (.bool false)), (41, (.bool false)), (50, (ptr l3 (0 + 0))), (51, v51), (52, v52), (53, (.bool true)), (54, (ptr l6 (0 + 0))), (55, v55), (56, v56), (57, (.bool false)), (58, (ptr l6 (0 + 0))), (59, v59), (60, v60), (61, v60), (62, v60), (41, v60)]) g6 n6)) (
bellowsref08_Agent_Hear_j1 C K (puts (args0 [a0, a1]) [(3, (ptr l3 0)), (4, (.slice none 0 0)), (5, (.int .i64 0)), (7, (.agg c7.toArray)), (8, v8), (9, v9), (10, (.bool false)), (11, (ptr l3 (0 + 0))), (12, v12), (13, v13), (14, v14), (15, v14), (16, (ptr l3 (0 + 0))), (17, v17), (18, v18), (19, a0), (20, (ptr l3 (0 + 1))), (21, v21), (22, v22), (6, (ptr l6 0)), (24, (ptr l3 (0 + 0))), (25, v25), (26, v26), (27, (.bool true)), (28, (ptr l6 (0 + 0))), (29, v29), (30, v30), (31, v30), (23, v30), (42, (ptr l3 (0 + 0))), (43, v43), (44, v44), (45, (.bool false)), (46, undef), (47, undef), (48, undef), (49, (.bool false)), (41, (.bool false)), (50, (ptr l3 (0 + 0))), (51, v51), (52, v52), (53, (.bool false)), (54, undef), (55, undef), (56, undef), (57, undef), (58, undef), (59, undef), (60, undef), (61, undef), (62, (.bool false)), (41, (.bool false))]) g6 n6)))) (
kLd g6 l3 (0 + 0) fun v43 =>
kBin .int .eql v43 (.int .i64 9) fun v44 =>
kSplit v44 (
kLd g6 l6 (0 + 0) fun v47 =>
kBin .int .eql v47 (.int .i64 4) fun v48 =>
kSplit v48 (
bellowsref08_Agent_Hear_j1 C K (puts (args0 [a0, a1]) [(3, (ptr l3 0)), (4, (.slice none 0 0)), (5, (.int .i64 0)), (7, (.agg c7.toArray)), (8, v8), (9, v9), (10, (.bool false)), (11, (ptr l3 (0 + 0))), (12, v12), (13, v13), (14, v14), (15, v14), (16, (ptr l3 (0 + 0))), (17, v17), (18, v18), (19, a0), (20, (ptr l3 (0 + 1))), (21, v21), (22, v22), (6, (ptr l6 0)), (24, (ptr l3 (0 + 0))), (25, v25), (26, v26), (27, (.bool false)), (28, undef), (29, undef), (30, undef), (31, (.bool false)), (23, (.bool false)), (42, (ptr l3 (0 + 0))), (43, v43), (44, v44), (45, (.bool true)), (46, (ptr l6 (0 + 0))), (47, v47), (48, v48), (49, v48), (41, v48)]) g6 n6) (
kLd g6 l3 (0 + 0) fun v51 =>
kBin .int .eql v51 (.int .i64 10) fun v52 =>
kSplit v52 (
kLd g6 l6 (0 + 0) fun v55 =>
kBin .int .eql v55 (.int .i64 5) fun v56 =>
kSplit v56 (
bellowsref08_Agent_Hear_j1 C K (puts (args0 [a0, a1]) [(3, (ptr l3 0)), (4, (.slice none 0 0)), (5, (.int .i64 0)), (7, (.agg c7.toArray)), (8, v8), (9, v9), (10, (.bool false)), (11, (ptr l3 (0 + 0))), (12, v12), (13, v13), (14, v14), (15, v14), (16, (ptr l3 (0 + 0))), (17, v17), (18, v18), (19, a0), (20, (ptr l3 (0 + 1))), (21, v21), (22, v22), (6, (ptr l6 0)), (24, (ptr l3 (0 + 0))), (25, v25), (26, v26), (27, (.bool false)), (28, undef), (29, undef), (30, undef), (31, (.bool false)), (23, (.bool false)), (42, (ptr l3 (0 + 0))), (43, v43), (44, v44), (45, (.bool true)), (46, (ptr l6 (0 + 0))), (47, v47), (48, v48), (49, v48), (41, v48), (50, (ptr l3 (0 + 0))), (51, v51), (52, v52), (53, (.bool true)), (54, (ptr l6 (0 + 0))), (55, v55), (56, v56), (57, (.bool true)), (58, undef), (59, undef), (60, undef), (61, (.bool true)), (62, (.bool true)), (41, (.bool true))]) g6 n6) (
kLd g6 l6 (0 + 0) fun v59 =>
kBin .int .eql v59 (.int .i64 6) fun v60 =>
bellowsref08_Agent_Hear_j1 C K (puts (args0 [a0, a1]) [(3, (ptr l3 0)), (4, (.slice none 0 0)), (5, (.int .i64 0)), (7, (.agg c7.toArray)), (8, v8), (9, v9), (10, (.bool false)), (11, (ptr l3 (0 + 0))), (12, v12), (13, v13), (14, v14), (15, v14), (16, (ptr l3 (0 + 0))), (17, v17), (18, v18), (19, a0), (20, (ptr l3 (0 + 1))), (21, v21), (22, v22), (6, (ptr l6 0)), (24, (ptr l3 (0 + 0))), (25, v25), (26, v26), (27, (.bool false)), (28, undef), (29, undef), (30, undef), (31, (.bool false)), (23, (.bool false)), (42, (ptr l3 (0 + 0))), (43, v43), (44, v44), (45, (.bool true)), (46, (ptr l6 (0 + 0))), (47, v47), (48, v48), (49, v48), (41, v48), (50, (ptr l3 (0 + 0))), (51, v51), (52, v52), (53, (.bool true)), (54, (ptr l6 (0 + 0))), (55, v55), (56, v56), (57, (.bool false)), (58, (ptr l6 (0 + 0))), (59, v59), (60, v60), (61, v60), (62, v60), (41, v60)]) g6 n6)) (
bellowsref08_Agent_Hear_j1 C K (puts (args0 [a0, a1]) [(3, (ptr l3 0)), (4, (.slice none 0 0)), (5, (.int .i64 0)), (7, (.agg c7.toArray)), (8, v8), (9, v9), (10, (.bool false)), (11, (ptr l3 (0 + 0))), (12, v12), (13, v13), (14, v14), (15, v14), (16, (ptr l3 (0 + 0))), (17, v17), (18, v18), (19, a0), (20, (ptr l3 (0 + 1))), (21, v21), (22, v22), (6, (ptr l6 0)), (24, (ptr l3 (0 + 0))), (25, v25), (26, v26), (27, (.bool false)), (28, undef), (29, undef), (30, undef), (31, (.bool false)), (23, (.bool false)), (42, (ptr l3 (0 + 0))), (43, v43), (44, v44), (45, (.bool true)), (46, (ptr l6 (0 + 0))), (47, v47), (48, v48), (49, v48), (41, v48), (50, (ptr l3 (0 + 0))), (51, v51), (52, v52), (53, (.bool false)), (54, undef), (55, undef), (56, undef), (57, undef), (58, undef), (59, undef), (60, undef), (61, undef), (62, (.bool false)), (41, (.bool false))]) g6 n6))) (
kLd g6 l3 (0 + 0) fun v51 =>
kBin .int .eql v51 (.int .i64 10) fun v52 =>
kSplit v52 (
kLd g6 l6 (0 + 0) fun v55 =>
kBin .int .eql v55 (.int .i64 5) fun v56 =>
kSplit v56 (
bellowsref08_Agent_Hear_j1 C K (puts (args0 [a0, a1]) [(3, (ptr l3 0)), (4, (.slice none 0 0)), (5, (.int .i64 0)), (7, (.agg c7.toArray)), (8, v8), (9, v9), (10, (.bool false)), (11, (ptr l3 (0 + 0))), (12, v12), (13, v13), (14, v14), (15, v14), (16, (ptr l3 (0 + 0))), (17, v17), (18, v18), (19, a0), (20, (ptr l3 (0 + 1))), (21, v21), (22, v22), (6, (ptr l6 0)), (24, (ptr l3 (0 + 0))), (25, v25), (26, v26), (27, (.bool false)), (28, undef), (29, undef), (30, undef), (31, (.bool false)), (23, (.bool false)), (42, (ptr l3 (0 + 0))), (43, v43), (44, v44), (45, (.bool false)), (46, undef), (47, undef), (48, undef), (49, (.bool false)), (41, (.bool false)), (50, (ptr l3 (0 + 0))), (51, v51), (52, v52), (53, (.bool true)), (54, (ptr l6 (0 + 0))), (55, v55), (56, v56), (57, (.bool true)), (58, undef), (59, undef), (60, undef), (61, (.bool true)), (62, (.bool true)), (41, (.bool true))]) g6 n6) (
kLd g6 l6 (0 + 0) fun v59 =>
kBin .int .eql v59 (.int .i64 6) fun v60 =>
bellowsref08_Agent_Hear_j1 C K (puts (args0 [a0, a1]) [(3, (ptr l3 0)), (4, (.slice none 0 0)), (5, (.int .i64 0)), (7, (.agg c7.toArray)), (8, v8), (9, v9), (10, (.bool false)), (11, (ptr l3 (0 + 0))), (12, v12), (13, v13), (14, v14), (15, v14), (16, (ptr l3 (0 + 0))), (17, v17), (18, v18), (19, a0), (20, (ptr l3 (0 + 1))), (21, v21), (22, v22), (6, (ptr l6 0)), (24, (ptr l3 (0 + 0))), (25, v25), (26, v26), (27, (.bool false)), (28, undef), (29, undef), (30, undef), (31, (.bool false)), (23, (.bool false)), (42, (ptr l3 (0 + 0))), (43, v43), (44, v44), (45, (.bool false)), (46, undef), (47, undef), (48, undef), (49, (.bool false)), (41, (.bool false)), (50, (ptr l3 (0 + 0))), (51, v51), (52, v52), (53, (.bool true)), (54, (ptr l6 (0 + 0))), (55, v55), (56, v56), (57, (.bool false)), (58, (ptr l6 (0 + 0))), (59, v59), (60, v60), (61, v60), (62, v60), (41, v60)]) g6 n6)) (
bellowsref08_Agent_Hear_j1 C K (puts (args0 [a0, a1]) [(3, (ptr l3 0)), (4, (.slice none 0 0)), (5, (.int .i64 0)), (7, (.agg c7.toArray)), (8, v8), (9, v9), (10, (.bool false)), (11, (ptr l3 (0 + 0))), (12, v12), (13, v13), (14, v14), (15, v14), (16, (ptr l3 (0 + 0))), (17, v17), (18, v18), (19, a0), (20, (ptr l3 (0 + 1))), (21, v21), (22, v22), (6, (ptr l6 0)), (24, (ptr l3 (0 + 0))), (25, v25), (26, v26), (27, (.bool false)), (28, undef), (29, undef), (30, undef), (31, (.bool false)), (23, (.bool false)), (42, (ptr l3 (0 + 0))), (43, v43), (44, v44), (45, (.bool false)), (46, undef), (47, undef), (48, undef), (49, (.bool false)), (41, (.bool false)), (50, (ptr l3 (0 + 0))), (51, v51), (52, v52), (53, (.bool false)), (54, undef), (55, undef), (56, undef), (57, undef), (58, undef), (59, undef), (60, undef), (61, undef), (62, (.bool false)), (41, (.bool false))]) g6 n6))))))

theorem bellowsref08_Agent_Hear_eq (C : CT) (a0 a1 : Value) (g : G) (n : Nat) (K : Cont) : bellowsref08_Agent_Hear C a0 a1 g n K = abody Try.prog C bellowsref08_Agent_Hear_id [a0, a1] g n K := by kernel_rfl

/- (*bellows/bellowsref08.Agent).Evict -/
def bellowsref08_Agent_Evict (C : CT) (a0 a1 : Value) (g : G) (n : Nat) (K : Cont) : Prop :=
C bellowsref08_Agent_Idle_id [a0] g n fun v7 g1 n7 =>
kUn .not v7 fun v8 =>
kSplit v8 (
aRet K (.tuple #[(.slice none 0 0), (.int .i64 15)]) g1 n7) (
C bellowsref08_Agent_Slot_id [a0, a1] g1 n7 fun v11 g2 n11 =>
kAgg v11 fun c12 =>
kPart c12 0 none fun v12 =>
kBin .int .eql v12 (.int .i64 0) fun v13 =>
kSplit v13 (
aRet K (.tuple #[(.slice none 0 0), (.int .i64 14)]) g2 n11) (
C bellowsref08_Agent_out_id [a0, a1] g2 n11 fun v16 g3 n16 =>
aRet K (.tuple #[v16, (.int .i64 0)]) g3 n16))

theorem bellowsref08_Agent_Evict_eq (C : CT) (a0 a1 : Value) (g : G) (n : Nat) (K : Cont) : bellowsref08_Agent_Evict C a0 a1 g n K = abody Try.prog C bellowsref08_Agent_Evict_id [a0, a1] g n K := by kernel_rfl

/- (*bellows/bellowsref08.Agent).Reach -/
def bellowsref08_Agent_Reach (C : CT) (a0 a1 : Value) (g : G) (n : Nat) (K : Cont) : Prop :=
C bellowsref08_there_id [a1, (.int .i64 0)] g n fun v7 g1 n7 =>
kUn .not v7 fun v8 =>
kSplit v8 (
aRet K (.slice none 0 0) g1 n7) (
C bellowsref08_Agent_Owns_id [a0, a1] g1 n7 fun v12 g2 n12 =>
kSplit v12 (
aRet K (.slice none 0 0) g2 n12) (
C bellowsref08_Agent_Idle_id [a0] g2 n12 fun v16 g3 n16 =>
kUn .not v16 fun v17 =>
kSplit v17 (
aRet K (.slice none 0 0) g3 n16) (
C bellowsref08_Agent_Slot_id [a0, a1] g3 n16 fun v21 g4 n21 =>
kNew [(.int .i64 0), (.int .i64 0), (.int .u64 0), (.int .u64 0), (.int .u64 0), (.int .u64 0), (.int .u64 0), (.int .u64 0), (.int .u64 0), (.int .u64 0), (.int .i64 0)] .exact g4 n21 fun l5 g5 n5 =>
kAgg v21 fun cg6 =>
cg6.length = 11 ∧ kStN g5 l5 0 cg6 fun g6 =>
kLd g6 l5 (0 + 0) fun v23 =>
kBin .int .eql v23 (.int .i64 1) fun v24 =>
kSplit v24 (
kNil a0 fun v26 =>
kPtr v26 fun l27 o27 =>
kLd g6 l27 (o27 + 0) fun v28 =>
kLdN g6 l5 (0 + 2) 8 fun c31 =>
C bellowsref05_Array_Set_id [v28, a1, (.int .i64 6), (.agg c31.toArray)] g6 n5 fun v32 g7 n32 =>
C bellowsref08_one_id [(.int .i64 2), a1] g7 n32 fun v34 g8 n34 =>
aRet K v34 g8 n34) (
C bellowsref08_Agent_miss_id [a0, a1, (.int .i64 5), (.int .i64 2)] g6 n5 fun v37 g9 n37 =>
aRet K v37 g9 n37))))

theorem bellowsref08_Agent_Reach_eq (C : CT) (a0 a1 : Value) (g : G) (n : Nat) (K : Cont) : bellowsref08_Agent_Reach C a0 a1 g n K = abody Try.prog C bellowsref08_Agent_Reach_id [a0, a1] g n K := by kernel_rfl

/- bellows/bellowslaw05.Same -/
def bellowslaw05_Same_l1 (C : CT) (K : Cont) (I_l1 : ECont) (t : Env) (g : G) (n : Nat) : Prop :=
kLen (t 0) fun v13 =>
kBin .int .lss (t 5) v13 fun v14 =>
kSplit v14 (
kIndexAddr (t 0) (t 5) 11 fun v19 =>
kPtr v19 fun l20 o20 =>
kLd g l20 (o20 + 0) fun v21 =>
kIndexAddr (t 1) (t 5) 11 fun v24 =>
kPtr v24 fun l25 o25 =>
kLd g l25 (o25 + 0) fun v26 =>
kBin .int .neq v21 v26 fun v27 =>
kSplit v27 (
aRet K (.bool false) g n) (
kIndexAddr (t 0) (t 5) 11 fun v31 =>
kPtr v31 fun l32 o32 =>
kLd g l32 (o32 + 1) fun v33 =>
kIndexAddr (t 1) (t 5) 11 fun v36 =>
kPtr v36 fun l37 o37 =>
kLd g l37 (o37 + 1) fun v38 =>
kBin .int .neq v33 v38 fun v39 =>
kSplit v39 (
aRet K (.bool false) g n) (
kIndexAddr (t 0) (t 5) 11 fun v44 =>
kPtr v44 fun l45 o45 =>
kLdN g l45 (o45 + 2) 8 fun c46 =>
kIndexAddr (t 1) (t 5) 11 fun v49 =>
kPtr v49 fun l50 o50 =>
kLdN g l50 (o50 + 2) 8 fun c51 =>
kBin (.agg [.i, .i, .i, .i, .i, .i, .i, .i]) .neq (.agg c46.toArray) (.agg c51.toArray) fun v52 =>
kSplit v52 (
aRet K (.bool false) g n) (
kIndexAddr (t 0) (t 5) 11 fun v57 =>
kPtr v57 fun l58 o58 =>
kLd g l58 (o58 + 10) fun v59 =>
kIndexAddr (t 1) (t 5) 11 fun v62 =>
kPtr v62 fun l63 o63 =>
kLd g l63 (o63 + 10) fun v64 =>
kBin .int .neq v59 v64 fun v65 =>
kSplit v65 (
aRet K (.bool false) g n) (
kBin .int .add (t 5) (.int .i64 1) fun v16 =>
I_l1 (puts t [(11, (t 5)), (12, (t 0)), (13, v13), (14, v14), (17, (t 0)), (18, (t 5)), (19, v19), (20, (ptr l20 (o20 + 0))), (21, v21), (22, (t 1)), (23, (t 5)), (24, v24), (25, (ptr l25 (o25 + 0))), (26, v26), (27, v27), (28, (.bool false)), (29, (t 0)), (30, (t 5)), (31, v31), (32, (ptr l32 (o32 + 1))), (33, v33), (34, (t 1)), (35, (t 5)), (36, v36), (37, (ptr l37 (o37 + 1))), (38, v38), (39, v39), (40, v39), (41, (.bool false)), (42, (t 0)), (43, (t 5)), (44, v44), (45, (ptr l45 (o45 + 2))), (46, (.agg c46.toArray)), (47, (t 1)), (48, (t 5)), (49, v49), (50, (ptr l50 (o50 + 2))), (51, (.agg c51.toArray)), (52, v52), (53, v52), (54, (.bool false)), (55, (t 0)), (56, (t 5)), (57, v57), (58, (ptr l58 (o58 + 10))), (59, v59), (60, (t 1)), (61, (t 5)), (62, v62), (63, (ptr l63 (o63 + 10))), (64, v64), (65, v65), (66, v65), (15, (t 5)), (16, v16), (5, v16)]) g n))))) (
aRet K (.bool true) g n)

def bellowslaw05_Same (C : CT) (a0 a1 : Value) (g : G) (n : Nat) (K : Cont) : Prop :=
kLen a0 fun v7 =>
kLen a1 fun v9 =>
kBin .int .neq v7 v9 fun v10 =>
kSplit v10 (
aRet K (.bool false) g n) (
lfp (bellowslaw05_Same_l1 C K) (puts (args0 [a0, a1]) [(4, (.bool false)), (6, a0), (7, v7), (8, a1), (9, v9), (10, v10), (5, (.int .i64 0))]) g n)

theorem bellowslaw05_Same_eq (C : CT) (a0 a1 : Value) (g : G) (n : Nat) (K : Cont) : bellowslaw05_Same C a0 a1 g n K = abody Try.prog C bellowslaw05_Same_id [a0, a1] g n K := by kernel_rfl

/- (*bellows/bellowsref05.Array).Slots -/
def bellowsref05_Array_Slots_j2 (C : CT) (K : Cont) (I_l1 : ECont) (t : Env) (g : G) (n : Nat) : Prop :=
kBin .int .add (t 4) (.int .i64 1) fun v13 =>
I_l1 (puts t [(12, (t 4)), (13, v13), (4, v13)]) g n

def bellowsref05_Array_Slots_l1 (C : CT) (K : Cont) (I_l1 : ECont) (t : Env) (g : G) (n : Nat) : Prop :=
kNil (t 0) fun v7 =>
kPtr v7 fun l8 o8 =>
kLd g l8 (o8 + 2) fun v9 =>
kLen v9 fun v10 =>
kBin .int .lss (t 4) v10 fun v11 =>
kSplit v11 (
kNil (t 0) fun v15 =>
kPtr v15 fun l16 o16 =>
kLd g l16 (o16 + 2) fun v17 =>
kIndexAddr v17 (t 4) 11 fun v19 =>
kPtr v19 fun l20 o20 =>
kLd g l20 (o20 + 0) fun v21 =>
kBin .int .neq v21 (.int .i64 0) fun v22 =>
kSplit v22 (
kNil (t 0) fun v25 =>
kPtr v25 fun l26 o26 =>
kLd g l26 (o26 + 2) fun v27 =>
kIndexAddr v27 (t 4) 11 fun v29 =>
kPtr v29 fun l30 o30 =>
kLdN g l30 o30 11 fun c30 =>
kFill (reps 1 [(.int .i64 0), (.int .i64 0), (.int .u64 0), (.int .u64 0), (.int .u64 0), (.int .u64 0), (.int .u64 0), (.int .u64 0), (.int .u64 0), (.int .u64 0), (.int .i64 0)]) [(0, (some 11), (.agg c30.toArray))] fun c31 =>
kNew c31 .exact g n fun l31 g1 n31 =>
kAppend (t 3) (.slice (some ⟨l31, 0, none⟩) 1 1) 11 88 g1 n31 fun v32 g2 n32 =>
bellowsref05_Array_Slots_j2 C K I_l1 (puts t [(5, (t 4)), (6, (t 0)), (7, v7), (8, (ptr l8 (o8 + 2))), (9, v9), (10, v10), (11, v11), (14, (t 0)), (15, v15), (16, (ptr l16 (o16 + 2))), (17, v17), (18, (t 4)), (19, v19), (20, (ptr l20 (o20 + 0))), (21, v21), (22, v22), (23, (t 3)), (24, (t 0)), (25, v25), (26, (ptr l26 (o26 + 2))), (27, v27), (28, (t 4)), (29, v29), (30, (.agg c30.toArray)), (31, (.slice (some ⟨l31, 0, none⟩) 1 1)), (32, v32), (3, v32)]) g2 n32) (
bellowsref05_Array_Slots_j2 C K I_l1 (puts t [(5, (t 4)), (6, (t 0)), (7, v7), (8, (ptr l8 (o8 + 2))), (9, v9), (10, v10), (11, v11), (14, (t 0)), (15, v15), (16, (ptr l16 (o16 + 2))), (17, v17), (18, (t 4)), (19, v19), (20, (ptr l20 (o20 + 0))), (21, v21), (22, v22)]) g n)) (
aRet K (t 3) g n)

def bellowsref05_Array_Slots (C : CT) (a0 : Value) (g : G) (n : Nat) (K : Cont) : Prop :=
lfp (bellowsref05_Array_Slots_l1 C K) (puts (args0 [a0]) [(2, (.slice none 0 0)), (3, (.slice none 0 0)), (4, (.int .i64 0))]) g n

theorem bellowsref05_Array_Slots_eq (C : CT) (a0 : Value) (g : G) (n : Nat) (K : Cont) : bellowsref05_Array_Slots C a0 g n K = abody Try.prog C bellowsref05_Array_Slots_id [a0] g n K := by kernel_rfl

/- (*bellows/bellowsref08.Agent).Idle -/
def bellowsref08_Agent_Idle_l1 (C : CT) (K : Cont) (I_l1 : ECont) (t : Env) (g : G) (n : Nat) : Prop :=
kNil (t 0) fun v6 =>
kPtr v6 fun l7 o7 =>
kLd g l7 (o7 + 0) fun v8 =>
kNil v8 fun v9 =>
kPtr v9 fun l10 o10 =>
kLd g l10 (o10 + 2) fun v11 =>
kLen v11 fun v12 =>
kBin .int .lss (t 3) v12 fun v13 =>
kSplit v13 (
kNil (t 0) fun v17 =>
kPtr v17 fun l18 o18 =>
kLd g l18 (o18 + 0) fun v19 =>
kNil v19 fun v20 =>
kPtr v20 fun l21 o21 =>
kLd g l21 (o21 + 2) fun v22 =>
kIndexAddr v22 (t 3) 11 fun v24 =>
kPtr v24 fun l25 o25 =>
kLd g l25 (o25 + 0) fun v26 =>
kBin .int .gtr v26 (.int .i64 3) fun v27 =>
kSplit v27 (
aRet K (.bool false) g n) (
kBin .int .add (t 3) (.int .i64 1) fun v15 =>
I_l1 (puts t [(4, (t 3)), (5, (t 0)), (6, v6), (7, (ptr l7 (o7 + 0))), (8, v8), (9, v9), (10, (ptr l10 (o10 + 2))), (11, v11), (12, v12), (13, v13), (16, (t 0)), (17, v17), (18, (ptr l18 (o18 + 0))), (19, v19), (20, v20), (21, (ptr l21 (o21 + 2))), (22, v22), (23, (t 3)), (24, v24), (25, (ptr l25 (o25 + 0))), (26, v26), (27, v27), (14, (t 3)), (15, v15), (3, v15)]) g n)) (
aRet K (.bool true) g n)

def bellowsref08_Agent_Idle (C : CT) (a0 : Value) (g : G) (n : Nat) (K : Cont) : Prop :=
lfp (bellowsref08_Agent_Idle_l1 C K) (puts (args0 [a0]) [(2, (.bool false)), (3, (.int .i64 0))]) g n

theorem bellowsref08_Agent_Idle_eq (C : CT) (a0 : Value) (g : G) (n : Nat) (K : Cont) : bellowsref08_Agent_Idle C a0 g n K = abody Try.prog C bellowsref08_Agent_Idle_id [a0] g n K := by kernel_rfl

/- (*bellows/bellowsref08.Agent).Owns -/
def bellowsref08_Agent_Owns (C : CT) (a0 a1 : Value) (g : G) (n : Nat) (K : Cont) : Prop :=
C bellowsref08_Agent_Slot_id [a0, a1] g n fun v8 g1 n8 =>
kAgg v8 fun c9 =>
kPart c9 0 none fun v9 =>
kBin .int .eql v9 (.int .i64 2) fun v11 =>
kSplit v11 (
aRet K (.bool true) g1 n8) (
kBin .int .eql v9 (.int .i64 3) fun v14 =>
aRet K v14 g1 n8)

theorem bellowsref08_Agent_Owns_eq (C : CT) (a0 a1 : Value) (g : G) (n : Nat) (K : Cont) : bellowsref08_Agent_Owns C a0 a1 g n K = abody Try.prog C bellowsref08_Agent_Owns_id [a0, a1] g n K := by kernel_rfl

/- bellows/array.New -/
def array_New (C : CT) (a0 a1 : Value) (g : G) (n : Nat) (K : Cont) : Prop :=
kBin .int .neq a0 (.int .i64 1) fun v7 =>
kSplit v7 (
kBin .int .neq a0 (.int .i64 2) fun v10 =>
kSplit v10 (
kBin .int .neq a0 (.int .i64 4) fun v14 =>
kSplit v14 (
kBin .int .neq a0 (.int .i64 8) fun v18 =>
kSplit v18 (
aRet K (.tuple #[(.pointer none), (.int .i64 1)]) g n) (
kBin .int .lss a1 (.int .i64 1) fun v22 =>
kSplit v22 (
aRet K (.tuple #[(.pointer none), (.int .i64 1)]) g n) (
kBin .int .gtr a1 (.int .i64 8) fun v26 =>
kSplit v26 (
aRet K (.tuple #[(.pointer none), (.int .i64 1)]) g n) (
kBin .int .mul a0 a1 fun v32 =>
kMake v32 v32 [(.int .i64 0), (.int .i64 0), (.int .u64 0), (.int .u64 0), (.int .u64 0), (.int .u64 0), (.int .u64 0), (.int .u64 0), (.int .u64 0), (.int .u64 0), (.int .i64 0)] 88 g n fun v33 g1 n33 =>
kFill [(.int .i64 0), (.int .i64 0), (.slice none 0 0), (.int .i64 0)] [(0, none, a0), (1, none, a1), (2, none, v33)] fun c34 =>
kAgg (.agg c34.toArray) fun c35 =>
kNew c35 .exact g1 n33 fun l35 g2 n35 =>
aRet K (.tuple #[(ptr l35 0), (.int .i64 0)]) g2 n35)))) (
kBin .int .lss a1 (.int .i64 1) fun v22 =>
kSplit v22 (
aRet K (.tuple #[(.pointer none), (.int .i64 1)]) g n) (
kBin .int .gtr a1 (.int .i64 8) fun v26 =>
kSplit v26 (
aRet K (.tuple #[(.pointer none), (.int .i64 1)]) g n) (
kBin .int .mul a0 a1 fun v32 =>
kMake v32 v32 [(.int .i64 0), (.int .i64 0), (.int .u64 0), (.int .u64 0), (.int .u64 0), (.int .u64 0), (.int .u64 0), (.int .u64 0), (.int .u64 0), (.int .u64 0), (.int .i64 0)] 88 g n fun v33 g3 n33 =>
kFill [(.int .i64 0), (.int .i64 0), (.slice none 0 0), (.int .i64 0)] [(0, none, a0), (1, none, a1), (2, none, v33)] fun c34 =>
kAgg (.agg c34.toArray) fun c35 =>
kNew c35 .exact g3 n33 fun l35 g4 n35 =>
aRet K (.tuple #[(ptr l35 0), (.int .i64 0)]) g4 n35)))) (
kBin .int .lss a1 (.int .i64 1) fun v22 =>
kSplit v22 (
aRet K (.tuple #[(.pointer none), (.int .i64 1)]) g n) (
kBin .int .gtr a1 (.int .i64 8) fun v26 =>
kSplit v26 (
aRet K (.tuple #[(.pointer none), (.int .i64 1)]) g n) (
kBin .int .mul a0 a1 fun v32 =>
kMake v32 v32 [(.int .i64 0), (.int .i64 0), (.int .u64 0), (.int .u64 0), (.int .u64 0), (.int .u64 0), (.int .u64 0), (.int .u64 0), (.int .u64 0), (.int .u64 0), (.int .i64 0)] 88 g n fun v33 g5 n33 =>
kFill [(.int .i64 0), (.int .i64 0), (.slice none 0 0), (.int .i64 0)] [(0, none, a0), (1, none, a1), (2, none, v33)] fun c34 =>
kAgg (.agg c34.toArray) fun c35 =>
kNew c35 .exact g5 n33 fun l35 g6 n35 =>
aRet K (.tuple #[(ptr l35 0), (.int .i64 0)]) g6 n35)))) (
kBin .int .lss a1 (.int .i64 1) fun v22 =>
kSplit v22 (
aRet K (.tuple #[(.pointer none), (.int .i64 1)]) g n) (
kBin .int .gtr a1 (.int .i64 8) fun v26 =>
kSplit v26 (
aRet K (.tuple #[(.pointer none), (.int .i64 1)]) g n) (
kBin .int .mul a0 a1 fun v32 =>
kMake v32 v32 [(.int .i64 0), (.int .i64 0), (.int .u64 0), (.int .u64 0), (.int .u64 0), (.int .u64 0), (.int .u64 0), (.int .u64 0), (.int .u64 0), (.int .u64 0), (.int .i64 0)] 88 g n fun v33 g7 n33 =>
kFill [(.int .i64 0), (.int .i64 0), (.slice none 0 0), (.int .i64 0)] [(0, none, a0), (1, none, a1), (2, none, v33)] fun c34 =>
kAgg (.agg c34.toArray) fun c35 =>
kNew c35 .exact g7 n33 fun l35 g8 n35 =>
aRet K (.tuple #[(ptr l35 0), (.int .i64 0)]) g8 n35)))

theorem array_New_eq (C : CT) (a0 a1 : Value) (g : G) (n : Nat) (K : Cont) : array_New C a0 a1 g n K = abody Try.prog C array_New_id [a0, a1] g n K := by kernel_rfl

/- bellows/agent.is -/
def agent_is (C : CT) (a0 a1 : Value) (g : G) (n : Nat) (K : Cont) : Prop :=
kBin .int .geq a0 (.int .i64 0) fun v6 =>
kSplit v6 (
kBin .int .lss a0 (.int .i64 64) fun v9 =>
kSplit v9 (
kBin .int .geq a1 (.int .i64 0) fun v13 =>
kSplit v13 (
kBin .int .lss a1 (.int .i64 8) fun v17 =>
aRet K v17 g n) (
aRet K (.bool false) g n)) (
aRet K (.bool false) g n)) (
aRet K (.bool false) g n)

theorem agent_is_eq (C : CT) (a0 a1 : Value) (g : G) (n : Nat) (K : Cont) : agent_is C a0 a1 g n K = abody Try.prog C agent_is_id [a0, a1] g n K := by kernel_rfl

/- (*bellows/agent.Agent).find -/
def agent_Agent_find (C : CT) (a0 a1 : Value) (g : G) (n : Nat) (K : Cont) : Prop :=
kNew [(.int .i64 0), (.int .i64 0), (.int .u64 0), (.int .u64 0), (.int .u64 0), (.int .u64 0), (.int .u64 0), (.int .u64 0), (.int .u64 0), (.int .u64 0), (.int .i64 0)] .exact g n fun l4 g1 n4 =>
kNil a0 fun v9 =>
kPtr v9 fun l10 o10 =>
kLd g1 l10 (o10 + 0) fun v11 =>
C array_Array_Find_id [v11, a1] g1 n4 fun v13 g2 n13 =>
kExtract v13 0 fun v14 =>
kExtract v13 1 fun v15 =>
kNew [(.int .i64 0), (.int .i64 0), (.int .u64 0), (.int .u64 0), (.int .u64 0), (.int .u64 0), (.int .u64 0), (.int .u64 0), (.int .u64 0), (.int .u64 0), (.int .i64 0)] .exact g2 n13 fun l5 g3 n5 =>
kAgg v14 fun cg4 =>
cg4.length = 11 ∧ kStN g3 l5 0 cg4 fun g4 =>
kLdN g4 l5 0 11 fun c16 =>
kAgg (.agg c16.toArray) fun cg5 =>
cg5.length = 11 ∧ kStN g4 l4 0 cg5 fun g5 =>
kLdN g5 l4 0 11 fun r0 =>
aRet K (.agg r0.toArray) g5 n5

theorem agent_Agent_find_eq (C : CT) (a0 a1 : Value) (g : G) (n : Nat) (K : Cont) : agent_Agent_find C a0 a1 g n K = abody Try.prog C agent_Agent_find_id [a0, a1] g n K := by kernel_rfl

/- (*bellows/array.Array).Touch -/
def array_Array_Touch (C : CT) (a0 a1 : Value) (g : G) (n : Nat) (K : Cont) : Prop :=
C array_Array_at_id [a0, a1] g n fun v7 g1 n7 =>
kBin .int .geq v7 (.int .i64 0) fun v9 =>
kSplit v9 (
C array_Array_set_id [a0, a1] g1 n7 fun v12 g2 n12 =>
C array_Array_number_id [a0] g2 n12 fun v15 g3 n15 =>
kIndexAddr v12 v7 11 fun v16 =>
kPtr v16 fun l17 o17 =>
kSt g3 l17 (o17 + 10) v15 fun g4 =>
aRet K (.tuple #[]) g4 n15) (
aRet K (.tuple #[]) g1 n7)

theorem array_Array_Touch_eq (C : CT) (a0 a1 : Value) (g : G) (n : Nat) (K : Cont) : array_Array_Touch C a0 a1 g n K = abody Try.prog C array_Array_Touch_id [a0, a1] g n K := by kernel_rfl

/- (*bellows/agent.Agent).ask -/
def agent_Agent_ask_j1 (C : CT) (K : Cont) (t : Env) (g : G) (n : Nat) : Prop :=
kNil (t 0) fun v43 =>
kPtr v43 fun l44 o44 =>
kLd g l44 (o44 + 0) fun v45 =>
kPtr (t 9) fun l48 o48 =>
kLdN g l48 o48 8 fun c48 =>
C array_Array_Set_id [v45, (t 1), (t 2), (.agg c48.toArray)] g n fun v49 g6 n49 =>
kFill [(.int .i64 0), (.int .i64 0), (.bool false), (.bool false), (.int .u64 0), (.int .u64 0), (.int .u64 0), (.int .u64 0), (.int .u64 0), (.int .u64 0), (.int .u64 0), (.int .u64 0)] [(0, none, (t 3)), (1, none, (t 1))] fun c52 =>
kFill (reps 1 [(.int .i64 0), (.int .i64 0), (.bool false), (.bool false), (.int .u64 0), (.int .u64 0), (.int .u64 0), (.int .u64 0), (.int .u64 0), (.int .u64 0), (.int .u64 0), (.int .u64 0)]) [(0, (some 12), (.agg c52.toArray))] fun c53 =>
kNew c53 .exact g6 n49 fun l53 g7 n53 =>
aRet K (.slice (some ⟨l53, 0, none⟩) 1 1) g7 n53

def agent_Agent_ask (C : CT) (a0 a1 a2 a3 a4 : Value) (g : G) (n : Nat) (K : Cont) : Prop :=
kAgg a4 fun c9 =>
kNew c9 .exact g n fun l9 g1 n9 =>
C agent_Agent_Idle_id [a0] g1 n9 fun v14 g2 n14 =>
kUn .not v14 fun v15 =>
kSplit v15 (
aRet K (.slice none 0 0) g2 n14) (
kBin .int .neq a2 (.int .i64 6) fun v17 =>
kSplit v17 (
kNil a0 fun v20 =>
kPtr v20 fun l21 o21 =>
kLd g2 l21 (o21 + 0) fun v22 =>
C array_Array_Room_id [v22, a1] g2 n14 fun v24 g3 n24 =>
kExtract v24 0 fun v25 =>
kExtract v24 1 fun v26 =>
kUn .not v25 fun v29 =>
kSplit v29 (
kBin .int .lss v26 (.int .i64 0) fun v32 =>
kSplit v32 (
aRet K (.slice none 0 0) g3 n24) (
kUn .not v25 fun v36 =>
kSplit v36 (
C agent_Agent_find_id [a0, v26] g3 n24 fun v40 g4 n40 =>
C agent_Agent_out_id [a0, v40] g4 n40 fun v41 g5 n41 =>
aRet K v41 g5 n41) (
agent_Agent_ask_j1 C K (puts (args0 [a0, a1, a2, a3, a4]) [(9, (ptr l9 0)), (10, (.slice none 0 0)), (13, a0), (14, v14), (15, v15), (16, a2), (17, v17), (19, a0), (20, v20), (21, (ptr l21 (o21 + 0))), (22, v22), (23, a1), (24, v24), (18, v24), (25, v25), (26, v26), (11, v25), (12, v26), (28, v25), (29, v29), (30, (.bool true)), (31, v26), (32, v32), (33, v32), (27, v32), (35, v25), (36, v36), (34, v36)]) g3 n24))) (
kUn .not v25 fun v36 =>
kSplit v36 (
C agent_Agent_find_id [a0, v26] g3 n24 fun v40 g8 n40 =>
C agent_Agent_out_id [a0, v40] g8 n40 fun v41 g9 n41 =>
aRet K v41 g9 n41) (
agent_Agent_ask_j1 C K (puts (args0 [a0, a1, a2, a3, a4]) [(9, (ptr l9 0)), (10, (.slice none 0 0)), (13, a0), (14, v14), (15, v15), (16, a2), (17, v17), (19, a0), (20, v20), (21, (ptr l21 (o21 + 0))), (22, v22), (23, a1), (24, v24), (18, v24), (25, v25), (26, v26), (11, v25), (12, v26), (28, v25), (29, v29), (30, (.bool false)), (31, undef), (32, undef), (33, (.bool false)), (27, (.bool false)), (35, v25), (36, v36), (34, v36)]) g3 n24))) (
agent_Agent_ask_j1 C K (puts (args0 [a0, a1, a2, a3, a4]) [(9, (ptr l9 0)), (10, (.slice none 0 0)), (13, a0), (14, v14), (15, v15), (16, a2), (17, v17)]) g2 n14))

theorem agent_Agent_ask_eq (C : CT) (a0 a1 a2 a3 a4 : Value) (g : G) (n : Nat) (K : Cont) : agent_Agent_ask C a0 a1 a2 a3 a4 g n K = abody Try.prog C agent_Agent_ask_id [a0, a1, a2, a3, a4] g n K := by kernel_rfl

/- bellows/msg.Good -/
def msg_Good_j1 (C : CT) (K : Cont) (t : Env) (g : G) (n : Nat) : Prop :=
kPtr (t 1) fun l41 o41 =>
kLd g l41 (o41 + 2) fun v42 =>
kSplit v42 (
aRet K (.bool true) g n) (
kBin .int .and (t 3) (.int .i64 4) fun v45 =>
kBin .int .neq v45 (.int .i64 0) fun v46 =>
kSplit v46 (
aRet K (.bool true) g n) (
kPtr (t 1) fun l49 o49 =>
kLdN g l49 (o49 + 4) 8 fun c50 =>
kFill [(.int .u64 0), (.int .u64 0), (.int .u64 0), (.int .u64 0), (.int .u64 0), (.int .u64 0), (.int .u64 0), (.int .u64 0)] [] fun c51 =>
kBin (.agg [.i, .i, .i, .i, .i, .i, .i, .i]) .eql (.agg c50.toArray) (.agg c51.toArray) fun v52 =>
aRet K v52 g n))

def msg_Good (C : CT) (a0 : Value) (g : G) (n : Nat) (K : Cont) : Prop :=
kAgg a0 fun c1 =>
kNew c1 .exact g n fun l1 g1 n1 =>
kLd g1 l1 (0 + 0) fun v5 =>
kBin .int .lss v5 (.int .i64 1) fun v6 =>
kSplit v6 (
aRet K (.bool false) g1 n1) (
kLd g1 l1 (0 + 0) fun v9 =>
kBin .int .gtr v9 (.int .i64 14) fun v10 =>
kSplit v10 (
aRet K (.bool false) g1 n1) (
kLd g1 l1 (0 + 1) fun v14 =>
kBin .int .lss v14 (.int .i64 0) fun v15 =>
kSplit v15 (
aRet K (.bool false) g1 n1) (
kLd g1 l1 (0 + 1) fun v19 =>
kBin .int .geq v19 (.int .i64 64) fun v20 =>
kSplit v20 (
aRet K (.bool false) g1 n1) (
kLd g1 l1 (0 + 0) fun v24 =>
C msg_may_id [] g1 n1 fun v22 g2 n22 =>
(kPtr (ptr l1 (0 + 0)) fun l _ => g2 l = g1 l) ∧ kIdx v22 v24 15 1 none fun v25 =>
kLd g2 l1 (0 + 2) fun v28 =>
kSplit v28 (
kBin .int .and v25 (.int .i64 1) fun v31 =>
kBin .int .eql v31 (.int .i64 0) fun v32 =>
kSplit v32 (
kSplit v32 (
aRet K (.bool false) g2 n22) (
msg_Good_j1 C K (puts (args0 [a0]) [(1, (ptr l1 0)), (2, (.bool false)), (4, (ptr l1 (0 + 0))), (5, v5), (6, v6), (7, (.bool false)), (8, (ptr l1 (0 + 0))), (9, v9), (10, v10), (11, v10), (12, (.bool false)), (13, (ptr l1 (0 + 1))), (14, v14), (15, v15), (16, v15), (17, (.bool false)), (18, (ptr l1 (0 + 1))), (19, v19), (20, v20), (21, v20), (23, (ptr l1 (0 + 0))), (24, v24), (22, v22), (25, v25), (3, v25), (27, (ptr l1 (0 + 2))), (28, v28), (29, (.bool true)), (30, v25), (31, v31), (32, v32), (33, v32), (26, v32)]) g2 n22)) (
kLd g2 l1 (0 + 3) fun v35 =>
kSplit v35 (
kBin .int .and v25 (.int .i64 2) fun v38 =>
kBin .int .eql v38 (.int .i64 0) fun v39 =>
kSplit v39 (
aRet K (.bool false) g2 n22) (
msg_Good_j1 C K (puts (args0 [a0]) [(1, (ptr l1 0)), (2, (.bool false)), (4, (ptr l1 (0 + 0))), (5, v5), (6, v6), (7, (.bool false)), (8, (ptr l1 (0 + 0))), (9, v9), (10, v10), (11, v10), (12, (.bool false)), (13, (ptr l1 (0 + 1))), (14, v14), (15, v15), (16, v15), (17, (.bool false)), (18, (ptr l1 (0 + 1))), (19, v19), (20, v20), (21, v20), (23, (ptr l1 (0 + 0))), (24, v24), (22, v22), (25, v25), (3, v25), (27, (ptr l1 (0 + 2))), (28, v28), (29, (.bool true)), (30, v25), (31, v31), (32, v32), (33, v32), (26, v32), (34, (ptr l1 (0 + 3))), (35, v35), (36, (.bool true)), (37, v25), (38, v38), (39, v39), (40, v39), (26, v39)]) g2 n22)) (
msg_Good_j1 C K (puts (args0 [a0]) [(1, (ptr l1 0)), (2, (.bool false)), (4, (ptr l1 (0 + 0))), (5, v5), (6, v6), (7, (.bool false)), (8, (ptr l1 (0 + 0))), (9, v9), (10, v10), (11, v10), (12, (.bool false)), (13, (ptr l1 (0 + 1))), (14, v14), (15, v15), (16, v15), (17, (.bool false)), (18, (ptr l1 (0 + 1))), (19, v19), (20, v20), (21, v20), (23, (ptr l1 (0 + 0))), (24, v24), (22, v22), (25, v25), (3, v25), (27, (ptr l1 (0 + 2))), (28, v28), (29, (.bool true)), (30, v25), (31, v31), (32, v32), (33, v32), (26, v32), (34, (ptr l1 (0 + 3))), (35, v35), (36, (.bool false)), (37, undef), (38, undef), (39, undef), (40, (.bool false)), (26, (.bool false))]) g2 n22))) (
kLd g2 l1 (0 + 3) fun v35 =>
kSplit v35 (
kBin .int .and v25 (.int .i64 2) fun v38 =>
kBin .int .eql v38 (.int .i64 0) fun v39 =>
kSplit v39 (
aRet K (.bool false) g2 n22) (
msg_Good_j1 C K (puts (args0 [a0]) [(1, (ptr l1 0)), (2, (.bool false)), (4, (ptr l1 (0 + 0))), (5, v5), (6, v6), (7, (.bool false)), (8, (ptr l1 (0 + 0))), (9, v9), (10, v10), (11, v10), (12, (.bool false)), (13, (ptr l1 (0 + 1))), (14, v14), (15, v15), (16, v15), (17, (.bool false)), (18, (ptr l1 (0 + 1))), (19, v19), (20, v20), (21, v20), (23, (ptr l1 (0 + 0))), (24, v24), (22, v22), (25, v25), (3, v25), (27, (ptr l1 (0 + 2))), (28, v28), (29, (.bool false)), (30, undef), (31, undef), (32, undef), (33, (.bool false)), (26, (.bool false)), (34, (ptr l1 (0 + 3))), (35, v35), (36, (.bool true)), (37, v25), (38, v38), (39, v39), (40, v39), (26, v39)]) g2 n22)) (
msg_Good_j1 C K (puts (args0 [a0]) [(1, (ptr l1 0)), (2, (.bool false)), (4, (ptr l1 (0 + 0))), (5, v5), (6, v6), (7, (.bool false)), (8, (ptr l1 (0 + 0))), (9, v9), (10, v10), (11, v10), (12, (.bool false)), (13, (ptr l1 (0 + 1))), (14, v14), (15, v15), (16, v15), (17, (.bool false)), (18, (ptr l1 (0 + 1))), (19, v19), (20, v20), (21, v20), (23, (ptr l1 (0 + 0))), (24, v24), (22, v22), (25, v25), (3, v25), (27, (ptr l1 (0 + 2))), (28, v28), (29, (.bool false)), (30, undef), (31, undef), (32, undef), (33, (.bool false)), (26, (.bool false)), (34, (ptr l1 (0 + 3))), (35, v35), (36, (.bool false)), (37, undef), (38, undef), (39, undef), (40, (.bool false)), (26, (.bool false))]) g2 n22))))))

theorem msg_Good_eq (C : CT) (a0 : Value) (g : G) (n : Nat) (K : Cont) : msg_Good C a0 g n K = abody Try.prog C msg_Good_id [a0] g n K := by kernel_rfl

/- bellows/msg.Tells -/
def msg_Tells (C : CT) (a0 : Value) (g : G) (n : Nat) (K : Cont) : Prop :=
kBin .int .geq a0 (.int .i64 8) fun v4 =>
kSplit v4 (
kBin .int .leq a0 (.int .i64 14) fun v7 =>
aRet K v7 g n) (
aRet K (.bool false) g n)

theorem msg_Tells_eq (C : CT) (a0 : Value) (g : G) (n : Nat) (K : Cont) : msg_Tells C a0 g n K = abody Try.prog C msg_Tells_id [a0] g n K := by kernel_rfl

/- bellows/agent.turns -/
def agent_turns_l2 (C : CT) (K : Cont) (I_l1 : ECont) (I_l2 : ECont) (t : Env) (g : G) (n : Nat) : Prop :=
kBin .int .lss (t 7) (.int .i64 10) fun v8 =>
kSplit v8 (
kIndexArr (t 1) (t 2) 15 10 fun v12 =>
kIndexArr v12 (t 7) 10 1 fun v13 =>
kPtr v13 fun lg3 og3 =>
kSt g lg3 og3 (.int .i64 (-1)) fun g3 =>
kBin .int .eql (t 2) (.int .i64 14) fun v15 =>
kSplit v15 (
kIndexArr (t 1) (t 2) 15 10 fun v18 =>
kIndexArr v18 (t 7) 10 1 fun v19 =>
kPtr v19 fun lg4 og4 =>
kSt g3 lg4 og4 (.int .i64 (-2)) fun g4 =>
kBin .int .add (t 7) (.int .i64 1) fun v20 =>
I_l2 (puts t [(8, v8), (9, (t 7)), (3, (t 7)), (10, (t 2)), (11, (t 7)), (12, v12), (13, v13), (14, (t 2)), (15, v15), (16, (t 2)), (17, (t 7)), (18, v18), (19, v19), (20, v20), (7, v20)]) g4 n) (
kBin .int .add (t 7) (.int .i64 1) fun v20 =>
I_l2 (puts t [(8, v8), (9, (t 7)), (3, (t 7)), (10, (t 2)), (11, (t 7)), (12, v12), (13, v13), (14, (t 2)), (15, v15), (20, v20), (7, v20)]) g3 n)) (
kBin .int .add (t 4) (.int .i64 1) fun v21 =>
I_l1 (puts t [(8, v8), (21, v21), (4, v21)]) g n)

def agent_turns_j3 (C : CT) (K : Cont) (t : Env) (g : G) (n : Nat) : Prop :=
kIndexArr (t 1) (.int .i64 8) 15 10 fun v22 =>
kIndexArr v22 (.int .i64 4) 10 1 fun v23 =>
kPtr v23 fun lg5 og5 =>
kSt g lg5 og5 (.int .i64 1) fun g5 =>
kIndexArr (t 1) (.int .i64 9) 15 10 fun v24 =>
kIndexArr v24 (.int .i64 4) 10 1 fun v25 =>
kPtr v25 fun lg6 og6 =>
kSt g5 lg6 og6 (.int .i64 2) fun g6 =>
kIndexArr (t 1) (.int .i64 10) 15 10 fun v26 =>
kIndexArr v26 (.int .i64 5) 10 1 fun v27 =>
kPtr v27 fun lg7 og7 =>
kSt g6 lg7 og7 (.int .i64 2) fun g7 =>
kIndexArr (t 1) (.int .i64 10) 15 10 fun v28 =>
kIndexArr v28 (.int .i64 6) 10 1 fun v29 =>
kPtr v29 fun lg8 og8 =>
kSt g7 lg8 og8 (.int .i64 2) fun g8 =>
kIndexArr (t 1) (.int .i64 11) 15 10 fun v30 =>
kIndexArr v30 (.int .i64 7) 10 1 fun v31 =>
kPtr v31 fun lg9 og9 =>
kSt g8 lg9 og9 (.int .i64 0) fun g9 =>
kIndexArr (t 1) (.int .i64 11) 15 10 fun v32 =>
kIndexArr v32 (.int .i64 9) 10 1 fun v33 =>
kPtr v33 fun lg10 og10 =>
kSt g9 lg10 og10 (.int .i64 0) fun g10 =>
kIndexArr (t 1) (.int .i64 11) 15 10 fun v34 =>
kIndexArr v34 (.int .i64 8) 10 1 fun v35 =>
kPtr v35 fun lg11 og11 =>
kSt g10 lg11 og11 (.int .i64 0) fun g11 =>
kFill [(.int .i64 0), (.int .i64 0), (.int .i64 0), (.int .i64 0), (.int .i64 0), (.int .i64 0), (.int .i64 0), (.int .i64 0), (.int .i64 0), (.int .i64 0)] [(0, none, (.int .i64 (-1))), (1, none, (.int .i64 0)), (2, none, (.int .i64 0)), (3, none, (.int .i64 0)), (4, none, (.int .i64 (-1))), (5, none, (.int .i64 (-1))), (6, none, (.int .i64 5)), (7, none, (.int .i64 8)), (8, none, (.int .i64 (-1))), (9, none, (.int .i64 8))] fun c36 =>
kIndexArr (t 1) (.int .i64 12) 15 10 fun v37 =>
kPtr v37 fun lg12 og12 =>
kAgg (.agg c36.toArray) fun cg12 =>
cg12.length = 10 ∧ kStN g11 lg12 og12 cg12 fun g12 =>
kFill [(.int .i64 0), (.int .i64 0), (.int .i64 0), (.int .i64 0), (.int .i64 0), (.int .i64 0), (.int .i64 0), (.int .i64 0), (.int .i64 0), (.int .i64 0)] [(0, none, (.int .i64 (-1))), (1, none, (.int .i64 (-1))), (2, none, (.int .i64 1)), (3, none, (.int .i64 1)), (4, none, (.int .i64 (-1))), (5, none, (.int .i64 (-1))), (6, none, (.int .i64 (-1))), (7, none, (.int .i64 8)), (8, none, (.int .i64 (-1))), (9, none, (.int .i64 8))] fun c38 =>
kIndexArr (t 1) (.int .i64 13) 15 10 fun v39 =>
kPtr v39 fun lg13 og13 =>
kAgg (.agg c38.toArray) fun cg13 =>
cg13.length = 10 ∧ kStN g12 lg13 og13 cg13 fun g13 =>
kPtr (t 1) fun l40 o40 =>
kLdN g13 l40 o40 150 fun c40 =>
kPtr (t 0) fun lg14 og14 =>
kAgg (.agg c40.toArray) fun cg14 =>
cg14.length = 150 ∧ kStN g13 lg14 og14 cg14 fun g14 =>
kPtr (t 0) fun lr0 or0 =>
kLdN g14 lr0 or0 150 fun r0 =>
aRet K (.agg r0.toArray) g14 n

def agent_turns_l1 (C : CT) (K : Cont) (I_l1 : ECont) (t : Env) (g : G) (n : Nat) : Prop :=
kBin .int .lss (t 4) (.int .i64 15) fun v5 =>
kSplit v5 (
lfp (agent_turns_l2 C K I_l1) (puts t [(5, v5), (6, (t 4)), (2, (t 4)), (7, (.int .i64 0))]) g n) (
agent_turns_j3 C K (puts t [(5, v5)]) g n)

def agent_turns (C : CT) (g : G) (n : Nat) (K : Cont) : Prop :=
kNew [(.int .i64 0), (.int .i64 0), (.int .i64 0), (.int .i64 0), (.int .i64 0), (.int .i64 0), (.int .i64 0), (.int .i64 0), (.int .i64 0), (.int .i64 0), (.int .i64 0), (.int .i64 0), (.int .i64 0), (.int .i64 0), (.int .i64 0), (.int .i64 0), (.int .i64 0), (.int .i64 0), (.int .i64 0), (.int .i64 0), (.int .i64 0), (.int .i64 0), (.int .i64 0), (.int .i64 0), (.int .i64 0), (.int .i64 0), (.int .i64 0), (.int .i64 0), (.int .i64 0), (.int .i64 0), (.int .i64 0), (.int .i64 0), (.int .i64 0), (.int .i64 0), (.int .i64 0), (.int .i64 0), (.int .i64 0), (.int .i64 0), (.int .i64 0), (.int .i64 0), (.int .i64 0), (.int .i64 0), (.int .i64 0), (.int .i64 0), (.int .i64 0), (.int .i64 0), (.int .i64 0), (.int .i64 0), (.int .i64 0), (.int .i64 0), (.int .i64 0), (.int .i64 0), (.int .i64 0), (.int .i64 0), (.int .i64 0), (.int .i64 0), (.int .i64 0), (.int .i64 0), (.int .i64 0), (.int .i64 0), (.int .i64 0), (.int .i64 0), (.int .i64 0), (.int .i64 0), (.int .i64 0), (.int .i64 0), (.int .i64 0), (.int .i64 0), (.int .i64 0), (.int .i64 0), (.int .i64 0), (.int .i64 0), (.int .i64 0), (.int .i64 0), (.int .i64 0), (.int .i64 0), (.int .i64 0), (.int .i64 0), (.int .i64 0), (.int .i64 0), (.int .i64 0), (.int .i64 0), (.int .i64 0), (.int .i64 0), (.int .i64 0), (.int .i64 0), (.int .i64 0), (.int .i64 0), (.int .i64 0), (.int .i64 0), (.int .i64 0), (.int .i64 0), (.int .i64 0), (.int .i64 0), (.int .i64 0), (.int .i64 0), (.int .i64 0), (.int .i64 0), (.int .i64 0), (.int .i64 0), (.int .i64 0), (.int .i64 0), (.int .i64 0), (.int .i64 0), (.int .i64 0), (.int .i64 0), (.int .i64 0), (.int .i64 0), (.int .i64 0), (.int .i64 0), (.int .i64 0), (.int .i64 0), (.int .i64 0), (.int .i64 0), (.int .i64 0), (.int .i64 0), (.int .i64 0), (.int .i64 0), (.int .i64 0), (.int .i64 0), (.int .i64 0), (.int .i64 0), (.int .i64 0), (.int .i64 0), (.int .i64 0), (.int .i64 0), (.int .i64 0), (.int .i64 0), (.int .i64 0), (.int .i64 0), (.int .i64 0), (.int .i64 0), (.int .i64 0), (.int .i64 0), (.int .i64 0), (.int .i64 0), (.int .i64 0), (.int .i64 0), (.int .i64 0), (.int .i64 0), (.int .i64 0), (.int .i64 0), (.int .i64 0), (.int .i64 0), (.int .i64 0), (.int .i64 0), (.int .i64 0), (.int .i64 0), (.int .i64 0), (.int .i64 0)] .exact g n fun l0 g1 n0 =>
kNew [(.int .i64 0), (.int .i64 0), (.int .i64 0), (.int .i64 0), (.int .i64 0), (.int .i64 0), (.int .i64 0), (.int .i64 0), (.int .i64 0), (.int .i64 0), (.int .i64 0), (.int .i64 0), (.int .i64 0), (.int .i64 0), (.int .i64 0), (.int .i64 0), (.int .i64 0), (.int .i64 0), (.int .i64 0), (.int .i64 0), (.int .i64 0), (.int .i64 0), (.int .i64 0), (.int .i64 0), (.int .i64 0), (.int .i64 0), (.int .i64 0), (.int .i64 0), (.int .i64 0), (.int .i64 0), (.int .i64 0), (.int .i64 0), (.int .i64 0), (.int .i64 0), (.int .i64 0), (.int .i64 0), (.int .i64 0), (.int .i64 0), (.int .i64 0), (.int .i64 0), (.int .i64 0), (.int .i64 0), (.int .i64 0), (.int .i64 0), (.int .i64 0), (.int .i64 0), (.int .i64 0), (.int .i64 0), (.int .i64 0), (.int .i64 0), (.int .i64 0), (.int .i64 0), (.int .i64 0), (.int .i64 0), (.int .i64 0), (.int .i64 0), (.int .i64 0), (.int .i64 0), (.int .i64 0), (.int .i64 0), (.int .i64 0), (.int .i64 0), (.int .i64 0), (.int .i64 0), (.int .i64 0), (.int .i64 0), (.int .i64 0), (.int .i64 0), (.int .i64 0), (.int .i64 0), (.int .i64 0), (.int .i64 0), (.int .i64 0), (.int .i64 0), (.int .i64 0), (.int .i64 0), (.int .i64 0), (.int .i64 0), (.int .i64 0), (.int .i64 0), (.int .i64 0), (.int .i64 0), (.int .i64 0), (.int .i64 0), (.int .i64 0), (.int .i64 0), (.int .i64 0), (.int .i64 0), (.int .i64 0), (.int .i64 0), (.int .i64 0), (.int .i64 0), (.int .i64 0), (.int .i64 0), (.int .i64 0), (.int .i64 0), (.int .i64 0), (.int .i64 0), (.int .i64 0), (.int .i64 0), (.int .i64 0), (.int .i64 0), (.int .i64 0), (.int .i64 0), (.int .i64 0), (.int .i64 0), (.int .i64 0), (.int .i64 0), (.int .i64 0), (.int .i64 0), (.int .i64 0), (.int .i64 0), (.int .i64 0), (.int .i64 0), (.int .i64 0), (.int .i64 0), (.int .i64 0), (.int .i64 0), (.int .i64 0), (.int .i64 0), (.int .i64 0), (.int .i64 0), (.int .i64 0), (.int .i64 0), (.int .i64 0), (.int .i64 0), (.int .i64 0), (.int .i64 0), (.int .i64 0), (.int .i64 0), (.int .i64 0), (.int .i64 0), (.int .i64 0), (.int .i64 0), (.int .i64 0), (.int .i64 0), (.int .i64 0), (.int .i64 0), (.int .i64 0), (.int .i64 0), (.int .i64 0), (.int .i64 0), (.int .i64 0), (.int .i64 0), (.int .i64 0), (.int .i64 0), (.int .i64 0), (.int .i64 0), (.int .i64 0), (.int .i64 0)] .exact g1 n0 fun l1 g2 n1 =>
lfp (agent_turns_l1 C K) (puts (args0 []) [(0, (ptr l0 0)), (1, (ptr l1 0)), (4, (.int .i64 0))]) g2 n1

theorem agent_turns_eq (C : CT) (g : G) (n : Nat) (K : Cont) : agent_turns C g n K = abody Try.prog C agent_turns_id [] g n K := by kernel_rfl

/- (*bellows/array.Array).Drop -/
def array_Array_Drop_j1 (C : CT) (K : Cont) (t : Env) (g : G) (n : Nat) : Prop :=
kBin .int .geq (t 5) (.int .i64 0) fun v18 =>
aRet K v18 g n

def array_Array_Drop (C : CT) (a0 a1 : Value) (g : G) (n : Nat) (K : Cont) : Prop :=
C array_Array_at_id [a0, a1] g n fun v8 g1 n8 =>
kBin .int .geq v8 (.int .i64 0) fun v10 =>
kSplit v10 (
C array_Array_set_id [a0, a1] g1 n8 fun v13 g2 n13 =>
kFill [(.int .i64 0), (.int .i64 0), (.int .u64 0), (.int .u64 0), (.int .u64 0), (.int .u64 0), (.int .u64 0), (.int .u64 0), (.int .u64 0), (.int .u64 0), (.int .i64 0)] [] fun c15 =>
kIndexAddr v13 v8 11 fun v16 =>
kPtr v16 fun lg3 og3 =>
kAgg (.agg c15.toArray) fun cg3 =>
cg3.length = 11 ∧ kStN g2 lg3 og3 cg3 fun g3 =>
array_Array_Drop_j1 C K (puts (args0 [a0, a1]) [(4, (.bool false)), (6, a0), (7, a1), (8, v8), (5, v8), (9, v8), (10, v10), (11, a0), (12, a1), (13, v13), (14, v8), (15, (.agg c15.toArray)), (16, v16)]) g3 n13) (
array_Array_Drop_j1 C K (puts (args0 [a0, a1]) [(4, (.bool false)), (6, a0), (7, a1), (8, v8), (5, v8), (9, v8), (10, v10)]) g1 n8)

theorem array_Array_Drop_eq (C : CT) (a0 a1 : Value) (g : G) (n : Nat) (K : Cont) : array_Array_Drop C a0 a1 g n K = abody Try.prog C array_Array_Drop_id [a0, a1] g n K := by kernel_rfl

/- bellows/agent.answer -/
def agent_answer_j2 (C : CT) (K : Cont) (t : Env) (g : G) (n : Nat) : Prop :=
kPtr (t 7) fun l34 o34 =>
kLdN g l34 o34 12 fun c34 =>
kFill (reps 1 [(.int .i64 0), (.int .i64 0), (.bool false), (.bool false), (.int .u64 0), (.int .u64 0), (.int .u64 0), (.int .u64 0), (.int .u64 0), (.int .u64 0), (.int .u64 0), (.int .u64 0)]) [(0, (some 12), (.agg c34.toArray))] fun c35 =>
kNew c35 .exact g n fun l35 g8 n35 =>
aRet K (.slice (some ⟨l35, 0, none⟩) 1 1) g8 n35

def agent_answer_j1 (C : CT) (K : Cont) (t : Env) (g : G) (n : Nat) : Prop :=
kPtr (t 4) fun l22 o22 =>
kLd g l22 (o22 + 0) fun v23 =>
kBin .int .eql v23 (.int .i64 3) fun v24 =>
kSplit v24 (
kPtr (t 4) fun l30 o30 =>
kLdN g l30 (o30 + 2) 8 fun c31 =>
kPtr (t 7) fun l32 o32 =>
kSt g l32 (o32 + 2) (.bool true) fun g6 =>
(kPtr (ptr l30 (o30 + 2)) fun l _ => g6 l = g l) ∧ kPtr (t 7) fun l33 o33 =>
kAgg (.agg c31.toArray) fun cg7 =>
cg7.length = 8 ∧ kStN g6 l33 (o33 + 4) cg7 fun g7 =>
agent_answer_j2 C K (puts t [(22, (ptr l22 (o22 + 0))), (23, v23), (24, v24), (25, (.bool true)), (26, undef), (27, undef), (28, undef), (29, (.bool true)), (30, (ptr l30 (o30 + 2))), (31, (.agg c31.toArray)), (32, (ptr l32 (o32 + 2))), (33, (ptr l33 (o33 + 4)))]) g7 n) (
kPtr (t 4) fun l26 o26 =>
kLd g l26 (o26 + 0) fun v27 =>
kBin .int .eql v27 (.int .i64 9) fun v28 =>
kSplit v28 (
kPtr (t 4) fun l30 o30 =>
kLdN g l30 (o30 + 2) 8 fun c31 =>
kPtr (t 7) fun l32 o32 =>
kSt g l32 (o32 + 2) (.bool true) fun g9 =>
(kPtr (ptr l30 (o30 + 2)) fun l _ => g9 l = g l) ∧ kPtr (t 7) fun l33 o33 =>
kAgg (.agg c31.toArray) fun cg10 =>
cg10.length = 8 ∧ kStN g9 l33 (o33 + 4) cg10 fun g10 =>
agent_answer_j2 C K (puts t [(22, (ptr l22 (o22 + 0))), (23, v23), (24, v24), (25, (.bool false)), (26, (ptr l26 (o26 + 0))), (27, v27), (28, v28), (29, v28), (30, (ptr l30 (o30 + 2))), (31, (.agg c31.toArray)), (32, (ptr l32 (o32 + 2))), (33, (ptr l33 (o33 + 4)))]) g10 n) (
agent_answer_j2 C K (puts t [(22, (ptr l22 (o22 + 0))), (23, v23), (24, v24), (25, (.bool false)), (26, (ptr l26 (o26 + 0))), (27, v27), (28, v28), (29, v28)]) g n))

def agent_answer (C : CT) (a0 a1 a2 : Value) (g : G) (n : Nat) (K : Cont) : Prop :=
kAgg a0 fun c3 =>
kNew c3 .exact g n fun l3 g1 n3 =>
kAgg a1 fun c4 =>
kNew c4 .exact g1 n3 fun l4 g2 n4 =>
kLd g2 l3 (0 + 1) fun v9 =>
kFill [(.int .i64 0), (.int .i64 0), (.bool false), (.bool false), (.int .u64 0), (.int .u64 0), (.int .u64 0), (.int .u64 0), (.int .u64 0), (.int .u64 0), (.int .u64 0), (.int .u64 0)] [(1, none, v9)] fun c10 =>
kNew [(.int .i64 0), (.int .i64 0), (.bool false), (.bool false), (.int .u64 0), (.int .u64 0), (.int .u64 0), (.int .u64 0), (.int .u64 0), (.int .u64 0), (.int .u64 0), (.int .u64 0)] .exact g2 n4 fun l7 g3 n7 =>
kAgg (.agg c10.toArray) fun cg4 =>
cg4.length = 12 ∧ kStN g3 l7 0 cg4 fun g4 =>
kLd g4 l3 (0 + 0) fun v12 =>
kBin .int .eql v12 (.int .i64 12) fun v14 =>
kSplit v14 (
kSt g4 l7 (0 + 0) (.int .i64 6) fun g5 =>
agent_answer_j1 C K (puts (args0 [a0, a1, a2]) [(3, (ptr l3 0)), (4, (ptr l4 0)), (6, (.slice none 0 0)), (8, (ptr l3 (0 + 1))), (9, v9), (10, (.agg c10.toArray)), (7, (ptr l7 0)), (11, (ptr l3 (0 + 0))), (12, v12), (14, v14), (13, v14), (15, (ptr l7 (0 + 0)))]) g5 n7) (
kBin .int .eql v12 (.int .i64 13) fun v17 =>
kSplit v17 (
kBin .int .eql a2 (.int .i64 1) fun v19 =>
kSt g4 l7 (0 + 0) (.int .i64 7) fun g11 =>
kSt g11 l7 (0 + 3) v19 fun g12 =>
agent_answer_j1 C K (puts (args0 [a0, a1, a2]) [(3, (ptr l3 0)), (4, (ptr l4 0)), (6, (.slice none 0 0)), (8, (ptr l3 (0 + 1))), (9, v9), (10, (.agg c10.toArray)), (7, (ptr l7 0)), (11, (ptr l3 (0 + 0))), (12, v12), (14, v14), (13, v14), (17, v17), (16, v17), (18, a2), (19, v19), (20, (ptr l7 (0 + 0))), (21, (ptr l7 (0 + 3)))]) g12 n7) (
aRet K (.slice none 0 0) g4 n7))

theorem agent_answer_eq (C : CT) (a0 a1 a2 : Value) (g : G) (n : Nat) (K : Cont) : agent_answer C a0 a1 a2 g n K = abody Try.prog C agent_answer_id [a0, a1, a2] g n K := by kernel_rfl

/- (*bellows/array.Array).Set -/
def array_Array_Set_j1 (C : CT) (K : Cont) (t : Env) (g : G) (n : Nat) : Prop :=
kBin .int .lss (t 9) (.int .i64 0) fun v36 =>
kSplit v36 (
aRet K (.int .i64 13) g n) (
kPtr (t 7) fun l41 o41 =>
kLdN g l41 o41 8 fun c41 =>
C array_Array_number_id [(t 0)] g n fun v43 g5 n43 =>
(kPtr (t 7) fun l _ => g5 l = g l) ∧ kFill [(.int .i64 0), (.int .i64 0), (.int .u64 0), (.int .u64 0), (.int .u64 0), (.int .u64 0), (.int .u64 0), (.int .u64 0), (.int .u64 0), (.int .u64 0), (.int .i64 0)] [(0, none, (t 2)), (1, none, (t 1)), (2, (some 8), (.agg c41.toArray)), (10, none, v43)] fun c44 =>
kIndexAddr (t 10) (t 9) 11 fun v45 =>
kPtr v45 fun lg6 og6 =>
kAgg (.agg c44.toArray) fun cg6 =>
cg6.length = 11 ∧ kStN g5 lg6 og6 cg6 fun g6 =>
aRet K (.int .i64 0) g6 n43)

def array_Array_Set (C : CT) (a0 a1 a2 a3 : Value) (g : G) (n : Nat) (K : Cont) : Prop :=
kAgg a3 fun c7 =>
kNew c7 .exact g n fun l7 g1 n7 =>
kBin .ptr .eql a0 (.pointer none) fun v12 =>
kSplit v12 (
aRet K (.int .i64 1) g1 n7) (
kBin .int .lss a1 (.int .i64 0) fun v15 =>
kSplit v15 (
aRet K (.int .i64 1) g1 n7) (
kBin .int .lss a2 (.int .i64 1) fun v19 =>
kSplit v19 (
aRet K (.int .i64 1) g1 n7) (
kBin .int .gtr a2 (.int .i64 9) fun v23 =>
kSplit v23 (
aRet K (.int .i64 1) g1 n7) (
C array_Array_at_id [a0, a1] g1 n7 fun v27 g2 n27 =>
C array_Array_set_id [a0, a1] g2 n27 fun v30 g3 n30 =>
kBin .int .lss v27 (.int .i64 0) fun v32 =>
kSplit v32 (
C slices_IndexFunc_array_Slot_array_Slot_id [v30, (.func (.func array_empty_id) #[] #[])] g3 n30 fun v34 g4 n34 =>
array_Array_Set_j1 C K (puts (args0 [a0, a1, a2, a3]) [(7, (ptr l7 0)), (8, (.int .i64 0)), (11, a0), (12, v12), (13, (.bool false)), (14, a1), (15, v15), (16, v15), (17, (.bool false)), (18, a2), (19, v19), (20, v19), (21, (.bool false)), (22, a2), (23, v23), (24, v23), (25, a0), (26, a1), (27, v27), (28, a0), (29, a1), (30, v30), (9, v27), (10, v30), (31, v27), (32, v32), (33, v30), (34, v34), (9, v34)]) g4 n34) (
array_Array_Set_j1 C K (puts (args0 [a0, a1, a2, a3]) [(7, (ptr l7 0)), (8, (.int .i64 0)), (11, a0), (12, v12), (13, (.bool false)), (14, a1), (15, v15), (16, v15), (17, (.bool false)), (18, a2), (19, v19), (20, v19), (21, (.bool false)), (22, a2), (23, v23), (24, v23), (25, a0), (26, a1), (27, v27), (28, a0), (29, a1), (30, v30), (9, v27), (10, v30), (31, v27), (32, v32)]) g3 n30)))))

theorem array_Array_Set_eq (C : CT) (a0 a1 a2 a3 : Value) (g : G) (n : Nat) (K : Cont) : array_Array_Set C a0 a1 a2 a3 g n K = abody Try.prog C array_Array_Set_id [a0, a1, a2, a3] g n K := by kernel_rfl

/- (*bellows/array.Array).Slots -/
def array_Array_Slots (C : CT) (a0 : Value) (g : G) (n : Nat) (K : Cont) : Prop :=
kBin .ptr .eql a0 (.pointer none) fun v4 =>
kSplit v4 (
aRet K (.slice none 0 0) g n) (
kNil a0 fun v6 =>
kPtr v6 fun l7 o7 =>
kLd g l7 (o7 + 2) fun v8 =>
C slices_Clone_array_Slot_array_Slot_id [v8] g n fun v9 g1 n9 =>
C slices_DeleteFunc_array_Slot_array_Slot_id [v9, (.func (.func array_empty_id) #[] #[])] g1 n9 fun v10 g2 n10 =>
aRet K v10 g2 n10)

theorem array_Array_Slots_eq (C : CT) (a0 : Value) (g : G) (n : Nat) (K : Cont) : array_Array_Slots C a0 g n K = abody Try.prog C array_Array_Slots_id [a0] g n K := by kernel_rfl

/- (*bellows/agent.Agent).out -/
def agent_Agent_out_j1 (C : CT) (K : Cont) (t : Env) (g : G) (n : Nat) : Prop :=
kNil (t 0) fun v18 =>
kPtr v18 fun l19 o19 =>
kLd g l19 (o19 + 0) fun v20 =>
kPtr (t 3) fun l21 o21 =>
kLd g l21 (o21 + 1) fun v22 =>
kPtr (t 3) fun l24 o24 =>
kLdN g l24 (o24 + 2) 8 fun c25 =>
C array_Array_Set_id [v20, v22, (t 6), (.agg c25.toArray)] g n fun v26 g6 n26 =>
kPtr (t 5) fun l27 o27 =>
kLdN g6 l27 o27 12 fun c27 =>
kFill (reps 1 [(.int .i64 0), (.int .i64 0), (.bool false), (.bool false), (.int .u64 0), (.int .u64 0), (.int .u64 0), (.int .u64 0), (.int .u64 0), (.int .u64 0), (.int .u64 0), (.int .u64 0)]) [(0, (some 12), (.agg c27.toArray))] fun c28 =>
kNew c28 .exact g6 n26 fun l28 g7 n28 =>
aRet K (.slice (some ⟨l28, 0, none⟩) 1 1) g7 n28

def agent_Agent_out (C : CT) (a0 a1 : Value) (g : G) (n : Nat) (K : Cont) : Prop :=
kAgg a1 fun c3 =>
kNew c3 .exact g n fun l3 g1 n3 =>
kLd g1 l3 (0 + 1) fun v8 =>
kFill [(.int .i64 0), (.int .i64 0), (.bool false), (.bool false), (.int .u64 0), (.int .u64 0), (.int .u64 0), (.int .u64 0), (.int .u64 0), (.int .u64 0), (.int .u64 0), (.int .u64 0)] [(0, none, (.int .i64 3)), (1, none, v8)] fun c9 =>
kNew [(.int .i64 0), (.int .i64 0), (.bool false), (.bool false), (.int .u64 0), (.int .u64 0), (.int .u64 0), (.int .u64 0), (.int .u64 0), (.int .u64 0), (.int .u64 0), (.int .u64 0)] .exact g1 n3 fun l5 g2 n5 =>
kAgg (.agg c9.toArray) fun cg3 =>
cg3.length = 12 ∧ kStN g2 l5 0 cg3 fun g3 =>
kLd g3 l3 (0 + 0) fun v11 =>
kBin .int .eql v11 (.int .i64 3) fun v12 =>
kSplit v12 (
kLdN g3 l3 (0 + 2) 8 fun c14 =>
kSt g3 l5 (0 + 2) (.bool true) fun g4 =>
(kPtr (ptr l3 (0 + 2)) fun l _ => g4 l = g3 l) ∧ kAgg (.agg c14.toArray) fun cg5 =>
cg5.length = 8 ∧ kStN g4 l5 (0 + 4) cg5 fun g5 =>
agent_Agent_out_j1 C K (puts (args0 [a0, a1]) [(3, (ptr l3 0)), (4, (.slice none 0 0)), (7, (ptr l3 (0 + 1))), (8, v8), (9, (.agg c9.toArray)), (5, (ptr l5 0)), (6, (.int .i64 7)), (10, (ptr l3 (0 + 0))), (11, v11), (12, v12), (13, (ptr l3 (0 + 2))), (14, (.agg c14.toArray)), (6, (.int .i64 9)), (15, (ptr l5 (0 + 2))), (16, (ptr l5 (0 + 4)))]) g5 n5) (
agent_Agent_out_j1 C K (puts (args0 [a0, a1]) [(3, (ptr l3 0)), (4, (.slice none 0 0)), (7, (ptr l3 (0 + 1))), (8, v8), (9, (.agg c9.toArray)), (5, (ptr l5 0)), (6, (.int .i64 7)), (10, (ptr l3 (0 + 0))), (11, v11), (12, v12)]) g3 n5)

theorem agent_Agent_out_eq (C : CT) (a0 a1 : Value) (g : G) (n : Nat) (K : Cont) : agent_Agent_out C a0 a1 g n K = abody Try.prog C agent_Agent_out_id [a0, a1] g n K := by kernel_rfl

/- slices.ContainsFunc[[]bellows/array.Slot,bellows/array.Slot] -/
def slices_ContainsFunc_array_Slot_array_Slot (C : CT) (a0 a1 : Value) (g : G) (n : Nat) (K : Cont) : Prop :=
C slices_IndexFunc_array_Slot_array_Slot_id [a0, a1] g n fun v7 g1 n7 =>
kBin .int .geq v7 (.int .i64 0) fun v8 =>
aRet K v8 g1 n7

theorem slices_ContainsFunc_array_Slot_array_Slot_eq (C : CT) (a0 a1 : Value) (g : G) (n : Nat) (K : Cont) : slices_ContainsFunc_array_Slot_array_Slot C a0 a1 g n K = abody Try.prog C slices_ContainsFunc_array_Slot_array_Slot_id [a0, a1] g n K := by kernel_rfl

/- (*bellows/agent.Agent).Idle$1 -/
def agent_Agent_Idle_1 (C : CT) (a0 : Value) (g : G) (n : Nat) (K : Cont) : Prop :=
kAgg a0 fun c1 =>
kNew c1 .exact g n fun l1 g1 n1 =>
kLd g1 l1 (0 + 0) fun v4 =>
C agent_rests_id [v4] g1 n1 fun v5 g2 n5 =>
kUn .not v5 fun v6 =>
aRet K v6 g2 n5

theorem agent_Agent_Idle_1_eq (C : CT) (a0 : Value) (g : G) (n : Nat) (K : Cont) : agent_Agent_Idle_1 C a0 g n K = abody Try.prog C agent_Agent_Idle_1_id [a0] g n K := by kernel_rfl

/- bellows/agent.rests -/
def agent_rests (C : CT) (a0 : Value) (g : G) (n : Nat) (K : Cont) : Prop :=
kBin .int .geq a0 (.int .i64 0) fun v4 =>
kSplit v4 (
kBin .int .leq a0 (.int .i64 3) fun v7 =>
aRet K v7 g n) (
aRet K (.bool false) g n)

theorem agent_rests_eq (C : CT) (a0 : Value) (g : G) (n : Nat) (K : Cont) : agent_rests C a0 g n K = abody Try.prog C agent_rests_id [a0] g n K := by kernel_rfl

/- bellows/bellowsref05.New -/
def bellowsref05_New (C : CT) (a0 a1 : Value) (g : G) (n : Nat) (K : Cont) : Prop :=
kBin .int .neq a0 (.int .i64 1) fun v7 =>
kSplit v7 (
kBin .int .neq a0 (.int .i64 2) fun v10 =>
kSplit v10 (
kBin .int .neq a0 (.int .i64 4) fun v14 =>
kSplit v14 (
kBin .int .neq a0 (.int .i64 8) fun v18 =>
kSplit v18 (
aRet K (.tuple #[(.pointer none), (.int .i64 1)]) g n) (
kBin .int .lss a1 (.int .i64 1) fun v22 =>
kSplit v22 (
aRet K (.tuple #[(.pointer none), (.int .i64 1)]) g n) (
kBin .int .gtr a1 (.int .i64 8) fun v26 =>
kSplit v26 (
aRet K (.tuple #[(.pointer none), (.int .i64 1)]) g n) (
kBin .int .mul a0 a1 fun v32 =>
kMake v32 v32 [(.int .i64 0), (.int .i64 0), (.int .u64 0), (.int .u64 0), (.int .u64 0), (.int .u64 0), (.int .u64 0), (.int .u64 0), (.int .u64 0), (.int .u64 0), (.int .i64 0)] 88 g n fun v33 g1 n33 =>
kFill [(.int .i64 0), (.int .i64 0), (.slice none 0 0), (.int .i64 0)] [(0, none, a0), (1, none, a1), (2, none, v33)] fun c34 =>
kAgg (.agg c34.toArray) fun c35 =>
kNew c35 .exact g1 n33 fun l35 g2 n35 =>
aRet K (.tuple #[(ptr l35 0), (.int .i64 0)]) g2 n35)))) (
kBin .int .lss a1 (.int .i64 1) fun v22 =>
kSplit v22 (
aRet K (.tuple #[(.pointer none), (.int .i64 1)]) g n) (
kBin .int .gtr a1 (.int .i64 8) fun v26 =>
kSplit v26 (
aRet K (.tuple #[(.pointer none), (.int .i64 1)]) g n) (
kBin .int .mul a0 a1 fun v32 =>
kMake v32 v32 [(.int .i64 0), (.int .i64 0), (.int .u64 0), (.int .u64 0), (.int .u64 0), (.int .u64 0), (.int .u64 0), (.int .u64 0), (.int .u64 0), (.int .u64 0), (.int .i64 0)] 88 g n fun v33 g3 n33 =>
kFill [(.int .i64 0), (.int .i64 0), (.slice none 0 0), (.int .i64 0)] [(0, none, a0), (1, none, a1), (2, none, v33)] fun c34 =>
kAgg (.agg c34.toArray) fun c35 =>
kNew c35 .exact g3 n33 fun l35 g4 n35 =>
aRet K (.tuple #[(ptr l35 0), (.int .i64 0)]) g4 n35)))) (
kBin .int .lss a1 (.int .i64 1) fun v22 =>
kSplit v22 (
aRet K (.tuple #[(.pointer none), (.int .i64 1)]) g n) (
kBin .int .gtr a1 (.int .i64 8) fun v26 =>
kSplit v26 (
aRet K (.tuple #[(.pointer none), (.int .i64 1)]) g n) (
kBin .int .mul a0 a1 fun v32 =>
kMake v32 v32 [(.int .i64 0), (.int .i64 0), (.int .u64 0), (.int .u64 0), (.int .u64 0), (.int .u64 0), (.int .u64 0), (.int .u64 0), (.int .u64 0), (.int .u64 0), (.int .i64 0)] 88 g n fun v33 g5 n33 =>
kFill [(.int .i64 0), (.int .i64 0), (.slice none 0 0), (.int .i64 0)] [(0, none, a0), (1, none, a1), (2, none, v33)] fun c34 =>
kAgg (.agg c34.toArray) fun c35 =>
kNew c35 .exact g5 n33 fun l35 g6 n35 =>
aRet K (.tuple #[(ptr l35 0), (.int .i64 0)]) g6 n35)))) (
kBin .int .lss a1 (.int .i64 1) fun v22 =>
kSplit v22 (
aRet K (.tuple #[(.pointer none), (.int .i64 1)]) g n) (
kBin .int .gtr a1 (.int .i64 8) fun v26 =>
kSplit v26 (
aRet K (.tuple #[(.pointer none), (.int .i64 1)]) g n) (
kBin .int .mul a0 a1 fun v32 =>
kMake v32 v32 [(.int .i64 0), (.int .i64 0), (.int .u64 0), (.int .u64 0), (.int .u64 0), (.int .u64 0), (.int .u64 0), (.int .u64 0), (.int .u64 0), (.int .u64 0), (.int .i64 0)] 88 g n fun v33 g7 n33 =>
kFill [(.int .i64 0), (.int .i64 0), (.slice none 0 0), (.int .i64 0)] [(0, none, a0), (1, none, a1), (2, none, v33)] fun c34 =>
kAgg (.agg c34.toArray) fun c35 =>
kNew c35 .exact g7 n33 fun l35 g8 n35 =>
aRet K (.tuple #[(ptr l35 0), (.int .i64 0)]) g8 n35)))

theorem bellowsref05_New_eq (C : CT) (a0 a1 : Value) (g : G) (n : Nat) (K : Cont) : bellowsref05_New C a0 a1 g n K = abody Try.prog C bellowsref05_New_id [a0, a1] g n K := by kernel_rfl

/- bellows/bellowsref08.there -/
def bellowsref08_there (C : CT) (a0 a1 : Value) (g : G) (n : Nat) (K : Cont) : Prop :=
kBin .int .geq a0 (.int .i64 0) fun v6 =>
kSplit v6 (
kBin .int .leq a0 (.int .i64 63) fun v9 =>
kSplit v9 (
kBin .int .geq a1 (.int .i64 0) fun v13 =>
kSplit v13 (
kBin .int .leq a1 (.int .i64 7) fun v17 =>
aRet K v17 g n) (
aRet K (.bool false) g n)) (
aRet K (.bool false) g n)) (
aRet K (.bool false) g n)

theorem bellowsref08_there_eq (C : CT) (a0 a1 : Value) (g : G) (n : Nat) (K : Cont) : bellowsref08_there C a0 a1 g n K = abody Try.prog C bellowsref08_there_id [a0, a1] g n K := by kernel_rfl

/- (*bellows/bellowsref08.Agent).Slot -/
def bellowsref08_Agent_Slot (C : CT) (a0 a1 : Value) (g : G) (n : Nat) (K : Cont) : Prop :=
kNew [(.int .i64 0), (.int .i64 0), (.int .u64 0), (.int .u64 0), (.int .u64 0), (.int .u64 0), (.int .u64 0), (.int .u64 0), (.int .u64 0), (.int .u64 0), (.int .i64 0)] .exact g n fun l4 g1 n4 =>
kNil a0 fun v7 =>
kPtr v7 fun l8 o8 =>
kLd g1 l8 (o8 + 0) fun v9 =>
C bellowsref05_Array_At_id [v9, a1] g1 n4 fun v11 g2 n11 =>
kBin .int .geq v11 (.int .i64 0) fun v13 =>
kSplit v13 (
kNil a0 fun v15 =>
kPtr v15 fun l16 o16 =>
kLd g2 l16 (o16 + 0) fun v17 =>
kNil v17 fun v18 =>
kPtr v18 fun l19 o19 =>
kLd g2 l19 (o19 + 2) fun v20 =>
kIndexAddr v20 v11 11 fun v22 =>
kPtr v22 fun l23 o23 =>
kLdN g2 l23 o23 11 fun c23 =>
kAgg (.agg c23.toArray) fun cg3 =>
cg3.length = 11 ∧ kStN g2 l4 0 cg3 fun g3 =>
kLdN g3 l4 0 11 fun r0 =>
aRet K (.agg r0.toArray) g3 n11) (
kFill [(.int .i64 0), (.int .i64 0), (.int .u64 0), (.int .u64 0), (.int .u64 0), (.int .u64 0), (.int .u64 0), (.int .u64 0), (.int .u64 0), (.int .u64 0), (.int .i64 0)] [] fun c24 =>
kAgg (.agg c24.toArray) fun cg4 =>
cg4.length = 11 ∧ kStN g2 l4 0 cg4 fun g4 =>
kLdN g4 l4 0 11 fun r0 =>
aRet K (.agg r0.toArray) g4 n11)

theorem bellowsref08_Agent_Slot_eq (C : CT) (a0 a1 : Value) (g : G) (n : Nat) (K : Cont) : bellowsref08_Agent_Slot C a0 a1 g n K = abody Try.prog C bellowsref08_Agent_Slot_id [a0, a1] g n K := by kernel_rfl

/- (*bellows/bellowsref05.Array).Touch -/
def bellowsref05_Array_Touch (C : CT) (a0 a1 : Value) (g : G) (n : Nat) (K : Cont) : Prop :=
C bellowsref05_Array_At_id [a0, a1] g n fun v7 g1 n7 =>
kBin .int .geq v7 (.int .i64 0) fun v9 =>
kSplit v9 (
kNil a0 fun v11 =>
kPtr v11 fun l12 o12 =>
kLd g1 l12 (o12 + 3) fun v13 =>
kBin .int .add v13 (.int .i64 1) fun v14 =>
kNil a0 fun v15 =>
kPtr v15 fun l16 o16 =>
kSt g1 l16 (o16 + 3) v14 fun g2 =>
kNil a0 fun v18 =>
kPtr v18 fun l19 o19 =>
kLd g2 l19 (o19 + 2) fun v20 =>
kNil a0 fun v23 =>
kPtr v23 fun l24 o24 =>
kLd g2 l24 (o24 + 3) fun v25 =>
kIndexAddr v20 v7 11 fun v26 =>
kPtr v26 fun l27 o27 =>
kSt g2 l27 (o27 + 10) v25 fun g3 =>
aRet K (.tuple #[]) g3 n7) (
aRet K (.tuple #[]) g1 n7)

theorem bellowsref05_Array_Touch_eq (C : CT) (a0 a1 : Value) (g : G) (n : Nat) (K : Cont) : bellowsref05_Array_Touch C a0 a1 g n K = abody Try.prog C bellowsref05_Array_Touch_id [a0, a1] g n K := by kernel_rfl

/- (*bellows/bellowsref08.Agent).miss -/
def bellowsref08_Agent_miss (C : CT) (a0 a1 a2 a3 : Value) (g : G) (n : Nat) (K : Cont) : Prop :=
C bellowsref08_Agent_Idle_id [a0] g n fun v11 g1 n11 =>
kUn .not v11 fun v12 =>
kSplit v12 (
aRet K (.slice none 0 0) g1 n11) (
kNil a0 fun v14 =>
kPtr v14 fun l15 o15 =>
kLd g1 l15 (o15 + 0) fun v16 =>
C bellowsref05_Array_Free_id [v16, a1] g1 n11 fun v18 g2 n18 =>
kBin .int .geq v18 (.int .i64 0) fun v19 =>
kSplit v19 (
kNil a0 fun v21 =>
kPtr v21 fun l22 o22 =>
kLd g2 l22 (o22 + 0) fun v23 =>
kFill [(.int .u64 0), (.int .u64 0), (.int .u64 0), (.int .u64 0), (.int .u64 0), (.int .u64 0), (.int .u64 0), (.int .u64 0)] [] fun c26 =>
C bellowsref05_Array_Set_id [v23, a1, a2, (.agg c26.toArray)] g2 n18 fun v27 g3 n27 =>
C bellowsref08_one_id [a3, a1] g3 n27 fun v30 g4 n30 =>
aRet K v30 g4 n30) (
kNil a0 fun v32 =>
kPtr v32 fun l33 o33 =>
kLd g2 l33 (o33 + 0) fun v34 =>
C bellowsref05_Array_Victim_id [v34, a1] g2 n18 fun v36 g5 n36 =>
kBin .int .geq v36 (.int .i64 0) fun v38 =>
kSplit v38 (
C bellowsref08_Agent_out_id [a0, v36] g5 n36 fun v41 g6 n41 =>
aRet K v41 g6 n41) (
aRet K (.slice none 0 0) g5 n36)))

theorem bellowsref08_Agent_miss_eq (C : CT) (a0 a1 a2 a3 : Value) (g : G) (n : Nat) (K : Cont) : bellowsref08_Agent_miss C a0 a1 a2 a3 g n K = abody Try.prog C bellowsref08_Agent_miss_id [a0, a1, a2, a3] g n K := by kernel_rfl

/- (*bellows/bellowsref05.Array).Set -/
def bellowsref05_Array_Set_j1 (C : CT) (K : Cont) (t : Env) (g : G) (n : Nat) : Prop :=
kBin .int .lss (t 9) (.int .i64 0) fun v29 =>
kSplit v29 (
aRet K (.int .i64 13) g n) (
kNil (t 0) fun v31 =>
kPtr v31 fun l32 o32 =>
kLd g l32 (o32 + 3) fun v33 =>
kBin .int .add v33 (.int .i64 1) fun v34 =>
kNil (t 0) fun v35 =>
kPtr v35 fun l36 o36 =>
kSt g l36 (o36 + 3) v34 fun g4 =>
kNil (t 0) fun v38 =>
kPtr v38 fun l39 o39 =>
kLd g4 l39 (o39 + 2) fun v40 =>
kPtr (t 7) fun l44 o44 =>
kLdN g4 l44 o44 8 fun c44 =>
kNil (t 0) fun v46 =>
kPtr v46 fun l47 o47 =>
kLd g4 l47 (o47 + 3) fun v48 =>
kFill [(.int .i64 0), (.int .i64 0), (.int .u64 0), (.int .u64 0), (.int .u64 0), (.int .u64 0), (.int .u64 0), (.int .u64 0), (.int .u64 0), (.int .u64 0), (.int .i64 0)] [(0, none, (t 2)), (1, none, (t 1)), (2, (some 8), (.agg c44.toArray)), (10, none, v48)] fun c49 =>
kIndexAddr v40 (t 9) 11 fun v50 =>
kPtr v50 fun lg5 og5 =>
kAgg (.agg c49.toArray) fun cg5 =>
cg5.length = 11 ∧ kStN g4 lg5 og5 cg5 fun g5 =>
aRet K (.int .i64 0) g5 n)

def bellowsref05_Array_Set (C : CT) (a0 a1 a2 a3 : Value) (g : G) (n : Nat) (K : Cont) : Prop :=
kAgg a3 fun c7 =>
kNew c7 .exact g n fun l7 g1 n7 =>
kBin .int .lss a1 (.int .i64 0) fun v11 =>
kSplit v11 (
aRet K (.int .i64 1) g1 n7) (
kBin .int .lss a2 (.int .i64 1) fun v14 =>
kSplit v14 (
aRet K (.int .i64 1) g1 n7) (
kBin .int .gtr a2 (.int .i64 9) fun v18 =>
kSplit v18 (
aRet K (.int .i64 1) g1 n7) (
C bellowsref05_Array_At_id [a0, a1] g1 n7 fun v22 g2 n22 =>
kBin .int .lss v22 (.int .i64 0) fun v24 =>
kSplit v24 (
C bellowsref05_Array_Free_id [a0, a1] g2 n22 fun v27 g3 n27 =>
bellowsref05_Array_Set_j1 C K (puts (args0 [a0, a1, a2, a3]) [(7, (ptr l7 0)), (8, (.int .i64 0)), (10, a1), (11, v11), (12, (.bool false)), (13, a2), (14, v14), (15, v14), (16, (.bool false)), (17, a2), (18, v18), (19, v18), (20, a0), (21, a1), (22, v22), (9, v22), (23, v22), (24, v24), (25, a0), (26, a1), (27, v27), (9, v27)]) g3 n27) (
bellowsref05_Array_Set_j1 C K (puts (args0 [a0, a1, a2, a3]) [(7, (ptr l7 0)), (8, (.int .i64 0)), (10, a1), (11, v11), (12, (.bool false)), (13, a2), (14, v14), (15, v14), (16, (.bool false)), (17, a2), (18, v18), (19, v18), (20, a0), (21, a1), (22, v22), (9, v22), (23, v22), (24, v24)]) g2 n22))))

theorem bellowsref05_Array_Set_eq (C : CT) (a0 a1 a2 a3 : Value) (g : G) (n : Nat) (K : Cont) : bellowsref05_Array_Set C a0 a1 a2 a3 g n K = abody Try.prog C bellowsref05_Array_Set_id [a0, a1, a2, a3] g n K := by kernel_rfl

/- bellows/bellowsref06.Good -/
def bellowsref06_Good (C : CT) (a0 : Value) (g : G) (n : Nat) (K : Cont) : Prop :=
kAgg a0 fun c1 =>
kNew c1 .exact g n fun l1 g1 n1 =>
kLd g1 l1 (0 + 0) fun v6 =>
C bellowsref06_Asks_id [v6] g1 n1 fun v7 g2 n7 =>
kUn .not v7 fun v8 =>
kSplit v8 (
kLd g2 l1 (0 + 0) fun v11 =>
C bellowsref06_Answers_id [v11] g2 n7 fun v12 g3 n12 =>
kUn .not v12 fun v13 =>
kSplit v13 (
kLd g3 l1 (0 + 0) fun v17 =>
C bellowsref06_Tells_id [v17] g3 n12 fun v18 g4 n18 =>
kUn .not v18 fun v19 =>
kSplit v19 (
aRet K (.bool false) g4 n18) (
kLd g4 l1 (0 + 1) fun v23 =>
kBin .int .lss v23 (.int .i64 0) fun v24 =>
kSplit v24 (
aRet K (.bool false) g4 n18) (
kLd g4 l1 (0 + 1) fun v28 =>
kBin .int .gtr v28 (.int .i64 63) fun v29 =>
kSplit v29 (
aRet K (.bool false) g4 n18) (
kLd g4 l1 (0 + 0) fun v32 =>
kBin .int .eql v32 (.int .i64 3) fun v33 =>
kSplit v33 (
kLd g4 l1 (0 + 2) fun v45 =>
kSplit v45 (
kUn .not (.bool true) fun v48 =>
kSplit v48 (
aRet K (.bool false) g4 n18) (
kLd g4 l1 (0 + 3) fun v52 =>
kSplit v52 (
kLd g4 l1 (0 + 0) fun v55 =>
kBin .int .neq v55 (.int .i64 7) fun v56 =>
kSplit v56 (
aRet K (.bool false) g4 n18) (
kLd g4 l1 (0 + 0) fun v60 =>
kBin .int .eql v60 (.int .i64 8) fun v61 =>
kSplit v61 (
aRet K (.bool true) g4 n18) (
kLd g4 l1 (0 + 0) fun v64 =>
kBin .int .eql v64 (.int .i64 9) fun v65 =>
kSplit v65 (
aRet K (.bool true) g4 n18) (
kLd g4 l1 (0 + 0) fun v69 =>
kBin .int .eql v69 (.int .i64 10) fun v70 =>
kSplit v70 (
aRet K (.bool true) g4 n18) (
kLd g4 l1 (0 + 2) fun v76 =>
kSplit v76 (
aRet K (.bool true) g4 n18) (
kLdN g4 l1 (0 + 4) 8 fun c82 =>
kFill [(.int .u64 0), (.int .u64 0), (.int .u64 0), (.int .u64 0), (.int .u64 0), (.int .u64 0), (.int .u64 0), (.int .u64 0)] [] fun c83 =>
kBin (.agg [.i, .i, .i, .i, .i, .i, .i, .i]) .eql (.agg c82.toArray) (.agg c83.toArray) fun v84 =>
aRet K v84 g4 n18)))))) (
kLd g4 l1 (0 + 0) fun v60 =>
kBin .int .eql v60 (.int .i64 8) fun v61 =>
kSplit v61 (
aRet K (.bool true) g4 n18) (
kLd g4 l1 (0 + 0) fun v64 =>
kBin .int .eql v64 (.int .i64 9) fun v65 =>
kSplit v65 (
aRet K (.bool true) g4 n18) (
kLd g4 l1 (0 + 0) fun v69 =>
kBin .int .eql v69 (.int .i64 10) fun v70 =>
kSplit v70 (
aRet K (.bool true) g4 n18) (
kLd g4 l1 (0 + 2) fun v76 =>
kSplit v76 (
aRet K (.bool true) g4 n18) (
kLdN g4 l1 (0 + 4) 8 fun c82 =>
kFill [(.int .u64 0), (.int .u64 0), (.int .u64 0), (.int .u64 0), (.int .u64 0), (.int .u64 0), (.int .u64 0), (.int .u64 0)] [] fun c83 =>
kBin (.agg [.i, .i, .i, .i, .i, .i, .i, .i]) .eql (.agg c82.toArray) (.agg c83.toArray) fun v84 =>
aRet K v84 g4 n18))))))) (
kLd g4 l1 (0 + 3) fun v52 =>
kSplit v52 (
kLd g4 l1 (0 + 0) fun v55 =>
kBin .int .neq v55 (.int .i64 7) fun v56 =>
kSplit v56 (
aRet K (.bool false) g4 n18) (
kLd g4 l1 (0 + 0) fun v60 =>
kBin .int .eql v60 (.int .i64 8) fun v61 =>
kSplit v61 (
aRet K (.bool true) g4 n18) (
kLd g4 l1 (0 + 0) fun v64 =>
kBin .int .eql v64 (.int .i64 9) fun v65 =>
kSplit v65 (
aRet K (.bool true) g4 n18) (
kLd g4 l1 (0 + 0) fun v69 =>
kBin .int .eql v69 (.int .i64 10) fun v70 =>
kSplit v70 (
aRet K (.bool true) g4 n18) (
kLd g4 l1 (0 + 2) fun v76 =>
kSplit v76 (
aRet K (.bool true) g4 n18) (
kLdN g4 l1 (0 + 4) 8 fun c82 =>
kFill [(.int .u64 0), (.int .u64 0), (.int .u64 0), (.int .u64 0), (.int .u64 0), (.int .u64 0), (.int .u64 0), (.int .u64 0)] [] fun c83 =>
kBin (.agg [.i, .i, .i, .i, .i, .i, .i, .i]) .eql (.agg c82.toArray) (.agg c83.toArray) fun v84 =>
aRet K v84 g4 n18)))))) (
kLd g4 l1 (0 + 0) fun v60 =>
kBin .int .eql v60 (.int .i64 8) fun v61 =>
kSplit v61 (
aRet K (.bool true) g4 n18) (
kLd g4 l1 (0 + 0) fun v64 =>
kBin .int .eql v64 (.int .i64 9) fun v65 =>
kSplit v65 (
aRet K (.bool true) g4 n18) (
kLd g4 l1 (0 + 0) fun v69 =>
kBin .int .eql v69 (.int .i64 10) fun v70 =>
kSplit v70 (
aRet K (.bool true) g4 n18) (
kLd g4 l1 (0 + 2) fun v76 =>
kSplit v76 (
aRet K (.bool true) g4 n18) (
kLdN g4 l1 (0 + 4) 8 fun c82 =>
kFill [(.int .u64 0), (.int .u64 0), (.int .u64 0), (.int .u64 0), (.int .u64 0), (.int .u64 0), (.int .u64 0), (.int .u64 0)] [] fun c83 =>
kBin (.agg [.i, .i, .i, .i, .i, .i, .i, .i]) .eql (.agg c82.toArray) (.agg c83.toArray) fun v84 =>
aRet K v84 g4 n18))))))) (
kLd g4 l1 (0 + 0) fun v36 =>
kBin .int .eql v36 (.int .i64 6) fun v37 =>
kSplit v37 (
kLd g4 l1 (0 + 2) fun v45 =>
kSplit v45 (
kUn .not (.bool true) fun v48 =>
kSplit v48 (
aRet K (.bool false) g4 n18) (
kLd g4 l1 (0 + 3) fun v52 =>
kSplit v52 (
kLd g4 l1 (0 + 0) fun v55 =>
kBin .int .neq v55 (.int .i64 7) fun v56 =>
kSplit v56 (
aRet K (.bool false) g4 n18) (
kLd g4 l1 (0 + 0) fun v60 =>
kBin .int .eql v60 (.int .i64 8) fun v61 =>
kSplit v61 (
aRet K (.bool true) g4 n18) (
kLd g4 l1 (0 + 0) fun v64 =>
kBin .int .eql v64 (.int .i64 9) fun v65 =>
kSplit v65 (
aRet K (.bool true) g4 n18) (
kLd g4 l1 (0 + 0) fun v69 =>
kBin .int .eql v69 (.int .i64 10) fun v70 =>
kSplit v70 (
aRet K (.bool true) g4 n18) (
kLd g4 l1 (0 + 2) fun v76 =>
kSplit v76 (
aRet K (.bool true) g4 n18) (
kLdN g4 l1 (0 + 4) 8 fun c82 =>
kFill [(.int .u64 0), (.int .u64 0), (.int .u64 0), (.int .u64 0), (.int .u64 0), (.int .u64 0), (.int .u64 0), (.int .u64 0)] [] fun c83 =>
kBin (.agg [.i, .i, .i, .i, .i, .i, .i, .i]) .eql (.agg c82.toArray) (.agg c83.toArray) fun v84 =>
aRet K v84 g4 n18)))))) (
kLd g4 l1 (0 + 0) fun v60 =>
kBin .int .eql v60 (.int .i64 8) fun v61 =>
kSplit v61 (
aRet K (.bool true) g4 n18) (
kLd g4 l1 (0 + 0) fun v64 =>
kBin .int .eql v64 (.int .i64 9) fun v65 =>
kSplit v65 (
aRet K (.bool true) g4 n18) (
kLd g4 l1 (0 + 0) fun v69 =>
kBin .int .eql v69 (.int .i64 10) fun v70 =>
kSplit v70 (
aRet K (.bool true) g4 n18) (
kLd g4 l1 (0 + 2) fun v76 =>
kSplit v76 (
aRet K (.bool true) g4 n18) (
kLdN g4 l1 (0 + 4) 8 fun c82 =>
kFill [(.int .u64 0), (.int .u64 0), (.int .u64 0), (.int .u64 0), (.int .u64 0), (.int .u64 0), (.int .u64 0), (.int .u64 0)] [] fun c83 =>
kBin (.agg [.i, .i, .i, .i, .i, .i, .i, .i]) .eql (.agg c82.toArray) (.agg c83.toArray) fun v84 =>
aRet K v84 g4 n18))))))) (
kLd g4 l1 (0 + 3) fun v52 =>
kSplit v52 (
kLd g4 l1 (0 + 0) fun v55 =>
kBin .int .neq v55 (.int .i64 7) fun v56 =>
kSplit v56 (
aRet K (.bool false) g4 n18) (
kLd g4 l1 (0 + 0) fun v60 =>
kBin .int .eql v60 (.int .i64 8) fun v61 =>
kSplit v61 (
aRet K (.bool true) g4 n18) (
kLd g4 l1 (0 + 0) fun v64 =>
kBin .int .eql v64 (.int .i64 9) fun v65 =>
kSplit v65 (
aRet K (.bool true) g4 n18) (
kLd g4 l1 (0 + 0) fun v69 =>
kBin .int .eql v69 (.int .i64 10) fun v70 =>
kSplit v70 (
aRet K (.bool true) g4 n18) (
kLd g4 l1 (0 + 2) fun v76 =>
kSplit v76 (
aRet K (.bool true) g4 n18) (
kLdN g4 l1 (0 + 4) 8 fun c82 =>
kFill [(.int .u64 0), (.int .u64 0), (.int .u64 0), (.int .u64 0), (.int .u64 0), (.int .u64 0), (.int .u64 0), (.int .u64 0)] [] fun c83 =>
kBin (.agg [.i, .i, .i, .i, .i, .i, .i, .i]) .eql (.agg c82.toArray) (.agg c83.toArray) fun v84 =>
aRet K v84 g4 n18)))))) (
kLd g4 l1 (0 + 0) fun v60 =>
kBin .int .eql v60 (.int .i64 8) fun v61 =>
kSplit v61 (
aRet K (.bool true) g4 n18) (
kLd g4 l1 (0 + 0) fun v64 =>
kBin .int .eql v64 (.int .i64 9) fun v65 =>
kSplit v65 (
aRet K (.bool true) g4 n18) (
kLd g4 l1 (0 + 0) fun v69 =>
kBin .int .eql v69 (.int .i64 10) fun v70 =>
kSplit v70 (
aRet K (.bool true) g4 n18) (
kLd g4 l1 (0 + 2) fun v76 =>
kSplit v76 (
aRet K (.bool true) g4 n18) (
kLdN g4 l1 (0 + 4) 8 fun c82 =>
kFill [(.int .u64 0), (.int .u64 0), (.int .u64 0), (.int .u64 0), (.int .u64 0), (.int .u64 0), (.int .u64 0), (.int .u64 0)] [] fun c83 =>
kBin (.agg [.i, .i, .i, .i, .i, .i, .i, .i]) .eql (.agg c82.toArray) (.agg c83.toArray) fun v84 =>
aRet K v84 g4 n18))))))) (
kLd g4 l1 (0 + 0) fun v41 =>
kBin .int .eql v41 (.int .i64 7) fun v42 =>
kLd g4 l1 (0 + 2) fun v45 =>
kSplit v45 (
kUn .not v42 fun v48 =>
kSplit v48 (
aRet K (.bool false) g4 n18) (
kLd g4 l1 (0 + 3) fun v52 =>
kSplit v52 (
kLd g4 l1 (0 + 0) fun v55 =>
kBin .int .neq v55 (.int .i64 7) fun v56 =>
kSplit v56 (
aRet K (.bool false) g4 n18) (
kLd g4 l1 (0 + 0) fun v60 =>
kBin .int .eql v60 (.int .i64 8) fun v61 =>
kSplit v61 (
aRet K (.bool true) g4 n18) (
kLd g4 l1 (0 + 0) fun v64 =>
kBin .int .eql v64 (.int .i64 9) fun v65 =>
kSplit v65 (
aRet K (.bool true) g4 n18) (
kLd g4 l1 (0 + 0) fun v69 =>
kBin .int .eql v69 (.int .i64 10) fun v70 =>
kSplit v70 (
aRet K (.bool true) g4 n18) (
kSplit v42 (
kLd g4 l1 (0 + 2) fun v76 =>
kSplit v76 (
aRet K (.bool true) g4 n18) (
kLdN g4 l1 (0 + 4) 8 fun c82 =>
kFill [(.int .u64 0), (.int .u64 0), (.int .u64 0), (.int .u64 0), (.int .u64 0), (.int .u64 0), (.int .u64 0), (.int .u64 0)] [] fun c83 =>
kBin (.agg [.i, .i, .i, .i, .i, .i, .i, .i]) .eql (.agg c82.toArray) (.agg c83.toArray) fun v84 =>
aRet K v84 g4 n18)) (
kLdN g4 l1 (0 + 4) 8 fun c82 =>
kFill [(.int .u64 0), (.int .u64 0), (.int .u64 0), (.int .u64 0), (.int .u64 0), (.int .u64 0), (.int .u64 0), (.int .u64 0)] [] fun c83 =>
kBin (.agg [.i, .i, .i, .i, .i, .i, .i, .i]) .eql (.agg c82.toArray) (.agg c83.toArray) fun v84 =>
aRet K v84 g4 n18)))))) (
kLd g4 l1 (0 + 0) fun v60 =>
kBin .int .eql v60 (.int .i64 8) fun v61 =>
kSplit v61 (
aRet K (.bool true) g4 n18) (
kLd g4 l1 (0 + 0) fun v64 =>
kBin .int .eql v64 (.int .i64 9) fun v65 =>
kSplit v65 (
aRet K (.bool true) g4 n18) (
kLd g4 l1 (0 + 0) fun v69 =>
kBin .int .eql v69 (.int .i64 10) fun v70 =>
kSplit v70 (
aRet K (.bool true) g4 n18) (
kSplit v42 (
kLd g4 l1 (0 + 2) fun v76 =>
kSplit v76 (
aRet K (.bool true) g4 n18) (
kLdN g4 l1 (0 + 4) 8 fun c82 =>
kFill [(.int .u64 0), (.int .u64 0), (.int .u64 0), (.int .u64 0), (.int .u64 0), (.int .u64 0), (.int .u64 0), (.int .u64 0)] [] fun c83 =>
kBin (.agg [.i, .i, .i, .i, .i, .i, .i, .i]) .eql (.agg c82.toArray) (.agg c83.toArray) fun v84 =>
aRet K v84 g4 n18)) (
kLdN g4 l1 (0 + 4) 8 fun c82 =>
kFill [(.int .u64 0), (.int .u64 0), (.int .u64 0), (.int .u64 0), (.int .u64 0), (.int .u64 0), (.int .u64 0), (.int .u64 0)] [] fun c83 =>
kBin (.agg [.i, .i, .i, .i, .i, .i, .i, .i]) .eql (.agg c82.toArray) (.agg c83.toArray) fun v84 =>
aRet K v84 g4 n18))))))) (
kLd g4 l1 (0 + 3) fun v52 =>
kSplit v52 (
kLd g4 l1 (0 + 0) fun v55 =>
kBin .int .neq v55 (.int .i64 7) fun v56 =>
kSplit v56 (
aRet K (.bool false) g4 n18) (
kLd g4 l1 (0 + 0) fun v60 =>
kBin .int .eql v60 (.int .i64 8) fun v61 =>
kSplit v61 (
aRet K (.bool true) g4 n18) (
kLd g4 l1 (0 + 0) fun v64 =>
kBin .int .eql v64 (.int .i64 9) fun v65 =>
kSplit v65 (
aRet K (.bool true) g4 n18) (
kLd g4 l1 (0 + 0) fun v69 =>
kBin .int .eql v69 (.int .i64 10) fun v70 =>
kSplit v70 (
aRet K (.bool true) g4 n18) (
kSplit v42 (
kLd g4 l1 (0 + 2) fun v76 =>
kSplit v76 (
aRet K (.bool true) g4 n18) (
kLdN g4 l1 (0 + 4) 8 fun c82 =>
kFill [(.int .u64 0), (.int .u64 0), (.int .u64 0), (.int .u64 0), (.int .u64 0), (.int .u64 0), (.int .u64 0), (.int .u64 0)] [] fun c83 =>
kBin (.agg [.i, .i, .i, .i, .i, .i, .i, .i]) .eql (.agg c82.toArray) (.agg c83.toArray) fun v84 =>
aRet K v84 g4 n18)) (
kLdN g4 l1 (0 + 4) 8 fun c82 =>
kFill [(.int .u64 0), (.int .u64 0), (.int .u64 0), (.int .u64 0), (.int .u64 0), (.int .u64 0), (.int .u64 0), (.int .u64 0)] [] fun c83 =>
kBin (.agg [.i, .i, .i, .i, .i, .i, .i, .i]) .eql (.agg c82.toArray) (.agg c83.toArray) fun v84 =>
aRet K v84 g4 n18)))))) (
kLd g4 l1 (0 + 0) fun v60 =>
kBin .int .eql v60 (.int .i64 8) fun v61 =>
kSplit v61 (
aRet K (.bool true) g4 n18) (
kLd g4 l1 (0 + 0) fun v64 =>
kBin .int .eql v64 (.int .i64 9) fun v65 =>
kSplit v65 (
aRet K (.bool true) g4 n18) (
kLd g4 l1 (0 + 0) fun v69 =>
kBin .int .eql v69 (.int .i64 10) fun v70 =>
kSplit v70 (
aRet K (.bool true) g4 n18) (
kSplit v42 (
kLd g4 l1 (0 + 2) fun v76 =>
kSplit v76 (
aRet K (.bool true) g4 n18) (
kLdN g4 l1 (0 + 4) 8 fun c82 =>
kFill [(.int .u64 0), (.int .u64 0), (.int .u64 0), (.int .u64 0), (.int .u64 0), (.int .u64 0), (.int .u64 0), (.int .u64 0)] [] fun c83 =>
kBin (.agg [.i, .i, .i, .i, .i, .i, .i, .i]) .eql (.agg c82.toArray) (.agg c83.toArray) fun v84 =>
aRet K v84 g4 n18)) (
kLdN g4 l1 (0 + 4) 8 fun c82 =>
kFill [(.int .u64 0), (.int .u64 0), (.int .u64 0), (.int .u64 0), (.int .u64 0), (.int .u64 0), (.int .u64 0), (.int .u64 0)] [] fun c83 =>
kBin (.agg [.i, .i, .i, .i, .i, .i, .i, .i]) .eql (.agg c82.toArray) (.agg c83.toArray) fun v84 =>
aRet K v84 g4 n18)))))))))))) (
kLd g3 l1 (0 + 1) fun v23 =>
kBin .int .lss v23 (.int .i64 0) fun v24 =>
kSplit v24 (
aRet K (.bool false) g3 n12) (
kLd g3 l1 (0 + 1) fun v28 =>
kBin .int .gtr v28 (.int .i64 63) fun v29 =>
kSplit v29 (
aRet K (.bool false) g3 n12) (
kLd g3 l1 (0 + 0) fun v32 =>
kBin .int .eql v32 (.int .i64 3) fun v33 =>
kSplit v33 (
kLd g3 l1 (0 + 2) fun v45 =>
kSplit v45 (
kUn .not (.bool true) fun v48 =>
kSplit v48 (
aRet K (.bool false) g3 n12) (
kLd g3 l1 (0 + 3) fun v52 =>
kSplit v52 (
kLd g3 l1 (0 + 0) fun v55 =>
kBin .int .neq v55 (.int .i64 7) fun v56 =>
kSplit v56 (
aRet K (.bool false) g3 n12) (
kLd g3 l1 (0 + 0) fun v60 =>
kBin .int .eql v60 (.int .i64 8) fun v61 =>
kSplit v61 (
aRet K (.bool true) g3 n12) (
kLd g3 l1 (0 + 0) fun v64 =>
kBin .int .eql v64 (.int .i64 9) fun v65 =>
kSplit v65 (
aRet K (.bool true) g3 n12) (
kLd g3 l1 (0 + 0) fun v69 =>
kBin .int .eql v69 (.int .i64 10) fun v70 =>
kSplit v70 (
aRet K (.bool true) g3 n12) (
kLd g3 l1 (0 + 2) fun v76 =>
kSplit v76 (
aRet K (.bool true) g3 n12) (
kLdN g3 l1 (0 + 4) 8 fun c82 =>
kFill [(.int .u64 0), (.int .u64 0), (.int .u64 0), (.int .u64 0), (.int .u64 0), (.int .u64 0), (.int .u64 0), (.int .u64 0)] [] fun c83 =>
kBin (.agg [.i, .i, .i, .i, .i, .i, .i, .i]) .eql (.agg c82.toArray) (.agg c83.toArray) fun v84 =>
aRet K v84 g3 n12)))))) (
kLd g3 l1 (0 + 0) fun v60 =>
kBin .int .eql v60 (.int .i64 8) fun v61 =>
kSplit v61 (
aRet K (.bool true) g3 n12) (
kLd g3 l1 (0 + 0) fun v64 =>
kBin .int .eql v64 (.int .i64 9) fun v65 =>
kSplit v65 (
aRet K (.bool true) g3 n12) (
kLd g3 l1 (0 + 0) fun v69 =>
kBin .int .eql v69 (.int .i64 10) fun v70 =>
kSplit v70 (
aRet K (.bool true) g3 n12) (
kLd g3 l1 (0 + 2) fun v76 =>
kSplit v76 (
aRet K (.bool true) g3 n12) (
kLdN g3 l1 (0 + 4) 8 fun c82 =>
kFill [(.int .u64 0), (.int .u64 0), (.int .u64 0), (.int .u64 0), (.int .u64 0), (.int .u64 0), (.int .u64 0), (.int .u64 0)] [] fun c83 =>
kBin (.agg [.i, .i, .i, .i, .i, .i, .i, .i]) .eql (.agg c82.toArray) (.agg c83.toArray) fun v84 =>
aRet K v84 g3 n12))))))) (
kLd g3 l1 (0 + 3) fun v52 =>
kSplit v52 (
kLd g3 l1 (0 + 0) fun v55 =>
kBin .int .neq v55 (.int .i64 7) fun v56 =>
kSplit v56 (
aRet K (.bool false) g3 n12) (
kLd g3 l1 (0 + 0) fun v60 =>
kBin .int .eql v60 (.int .i64 8) fun v61 =>
kSplit v61 (
aRet K (.bool true) g3 n12) (
kLd g3 l1 (0 + 0) fun v64 =>
kBin .int .eql v64 (.int .i64 9) fun v65 =>
kSplit v65 (
aRet K (.bool true) g3 n12) (
kLd g3 l1 (0 + 0) fun v69 =>
kBin .int .eql v69 (.int .i64 10) fun v70 =>
kSplit v70 (
aRet K (.bool true) g3 n12) (
kLd g3 l1 (0 + 2) fun v76 =>
kSplit v76 (
aRet K (.bool true) g3 n12) (
kLdN g3 l1 (0 + 4) 8 fun c82 =>
kFill [(.int .u64 0), (.int .u64 0), (.int .u64 0), (.int .u64 0), (.int .u64 0), (.int .u64 0), (.int .u64 0), (.int .u64 0)] [] fun c83 =>
kBin (.agg [.i, .i, .i, .i, .i, .i, .i, .i]) .eql (.agg c82.toArray) (.agg c83.toArray) fun v84 =>
aRet K v84 g3 n12)))))) (
kLd g3 l1 (0 + 0) fun v60 =>
kBin .int .eql v60 (.int .i64 8) fun v61 =>
kSplit v61 (
aRet K (.bool true) g3 n12) (
kLd g3 l1 (0 + 0) fun v64 =>
kBin .int .eql v64 (.int .i64 9) fun v65 =>
kSplit v65 (
aRet K (.bool true) g3 n12) (
kLd g3 l1 (0 + 0) fun v69 =>
kBin .int .eql v69 (.int .i64 10) fun v70 =>
kSplit v70 (
aRet K (.bool true) g3 n12) (
kLd g3 l1 (0 + 2) fun v76 =>
kSplit v76 (
aRet K (.bool true) g3 n12) (
kLdN g3 l1 (0 + 4) 8 fun c82 =>
kFill [(.int .u64 0), (.int .u64 0), (.int .u64 0), (.int .u64 0), (.int .u64 0), (.int .u64 0), (.int .u64 0), (.int .u64 0)] [] fun c83 =>
kBin (.agg [.i, .i, .i, .i, .i, .i, .i, .i]) .eql (.agg c82.toArray) (.agg c83.toArray) fun v84 =>
aRet K v84 g3 n12))))))) (
kLd g3 l1 (0 + 0) fun v36 =>
kBin .int .eql v36 (.int .i64 6) fun v37 =>
kSplit v37 (
kLd g3 l1 (0 + 2) fun v45 =>
kSplit v45 (
kUn .not (.bool true) fun v48 =>
kSplit v48 (
aRet K (.bool false) g3 n12) (
kLd g3 l1 (0 + 3) fun v52 =>
kSplit v52 (
kLd g3 l1 (0 + 0) fun v55 =>
kBin .int .neq v55 (.int .i64 7) fun v56 =>
kSplit v56 (
aRet K (.bool false) g3 n12) (
kLd g3 l1 (0 + 0) fun v60 =>
kBin .int .eql v60 (.int .i64 8) fun v61 =>
kSplit v61 (
aRet K (.bool true) g3 n12) (
kLd g3 l1 (0 + 0) fun v64 =>
kBin .int .eql v64 (.int .i64 9) fun v65 =>
kSplit v65 (
aRet K (.bool true) g3 n12) (
kLd g3 l1 (0 + 0) fun v69 =>
kBin .int .eql v69 (.int .i64 10) fun v70 =>
kSplit v70 (
aRet K (.bool true) g3 n12) (
kLd g3 l1 (0 + 2) fun v76 =>
kSplit v76 (
aRet K (.bool true) g3 n12) (
kLdN g3 l1 (0 + 4) 8 fun c82 =>
kFill [(.int .u64 0), (.int .u64 0), (.int .u64 0), (.int .u64 0), (.int .u64 0), (.int .u64 0), (.int .u64 0), (.int .u64 0)] [] fun c83 =>
kBin (.agg [.i, .i, .i, .i, .i, .i, .i, .i]) .eql (.agg c82.toArray) (.agg c83.toArray) fun v84 =>
aRet K v84 g3 n12)))))) (
kLd g3 l1 (0 + 0) fun v60 =>
kBin .int .eql v60 (.int .i64 8) fun v61 =>
kSplit v61 (
aRet K (.bool true) g3 n12) (
kLd g3 l1 (0 + 0) fun v64 =>
kBin .int .eql v64 (.int .i64 9) fun v65 =>
kSplit v65 (
aRet K (.bool true) g3 n12) (
kLd g3 l1 (0 + 0) fun v69 =>
kBin .int .eql v69 (.int .i64 10) fun v70 =>
kSplit v70 (
aRet K (.bool true) g3 n12) (
kLd g3 l1 (0 + 2) fun v76 =>
kSplit v76 (
aRet K (.bool true) g3 n12) (
kLdN g3 l1 (0 + 4) 8 fun c82 =>
kFill [(.int .u64 0), (.int .u64 0), (.int .u64 0), (.int .u64 0), (.int .u64 0), (.int .u64 0), (.int .u64 0), (.int .u64 0)] [] fun c83 =>
kBin (.agg [.i, .i, .i, .i, .i, .i, .i, .i]) .eql (.agg c82.toArray) (.agg c83.toArray) fun v84 =>
aRet K v84 g3 n12))))))) (
kLd g3 l1 (0 + 3) fun v52 =>
kSplit v52 (
kLd g3 l1 (0 + 0) fun v55 =>
kBin .int .neq v55 (.int .i64 7) fun v56 =>
kSplit v56 (
aRet K (.bool false) g3 n12) (
kLd g3 l1 (0 + 0) fun v60 =>
kBin .int .eql v60 (.int .i64 8) fun v61 =>
kSplit v61 (
aRet K (.bool true) g3 n12) (
kLd g3 l1 (0 + 0) fun v64 =>
kBin .int .eql v64 (.int .i64 9) fun v65 =>
kSplit v65 (
aRet K (.bool true) g3 n12) (
kLd g3 l1 (0 + 0) fun v69 =>
kBin .int .eql v69 (.int .i64 10) fun v70 =>
kSplit v70 (
aRet K (.bool true) g3 n12) (
kLd g3 l1 (0 + 2) fun v76 =>
kSplit v76 (
aRet K (.bool true) g3 n12) (
kLdN g3 l1 (0 + 4) 8 fun c82 =>
kFill [(.int .u64 0), (.int .u64 0), (.int .u64 0), (.int .u64 0), (.int .u64 0), (.int .u64 0), (.int .u64 0), (.int .u64 0)] [] fun c83 =>
kBin (.agg [.i, .i, .i, .i, .i, .i, .i, .i]) .eql (.agg c82.toArray) (.agg c83.toArray) fun v84 =>
aRet K v84 g3 n12)))))) (
kLd g3 l1 (0 + 0) fun v60 =>
kBin .int .eql v60 (.int .i64 8) fun v61 =>
kSplit v61 (
aRet K (.bool true) g3 n12) (
kLd g3 l1 (0 + 0) fun v64 =>
kBin .int .eql v64 (.int .i64 9) fun v65 =>
kSplit v65 (
aRet K (.bool true) g3 n12) (
kLd g3 l1 (0 + 0) fun v69 =>
kBin .int .eql v69 (.int .i64 10) fun v70 =>
kSplit v70 (
aRet K (.bool true) g3 n12) (
kLd g3 l1 (0 + 2) fun v76 =>
kSplit v76 (
aRet K (.bool true) g3 n12) (
kLdN g3 l1 (0 + 4) 8 fun c82 =>
kFill [(.int .u64 0), (.int .u64 0), (.int .u64 0), (.int .u64 0), (.int .u64 0), (.int .u64 0), (.int .u64 0), (.int .u64 0)] [] fun c83 =>
kBin (.agg [.i, .i, .i, .i, .i, .i, .i, .i]) .eql (.agg c82.toArray) (.agg c83.toArray) fun v84 =>
aRet K v84 g3 n12))))))) (
kLd g3 l1 (0 + 0) fun v41 =>
kBin .int .eql v41 (.int .i64 7) fun v42 =>
kLd g3 l1 (0 + 2) fun v45 =>
kSplit v45 (
kUn .not v42 fun v48 =>
kSplit v48 (
aRet K (.bool false) g3 n12) (
kLd g3 l1 (0 + 3) fun v52 =>
kSplit v52 (
kLd g3 l1 (0 + 0) fun v55 =>
kBin .int .neq v55 (.int .i64 7) fun v56 =>
kSplit v56 (
aRet K (.bool false) g3 n12) (
kLd g3 l1 (0 + 0) fun v60 =>
kBin .int .eql v60 (.int .i64 8) fun v61 =>
kSplit v61 (
aRet K (.bool true) g3 n12) (
kLd g3 l1 (0 + 0) fun v64 =>
kBin .int .eql v64 (.int .i64 9) fun v65 =>
kSplit v65 (
aRet K (.bool true) g3 n12) (
kLd g3 l1 (0 + 0) fun v69 =>
kBin .int .eql v69 (.int .i64 10) fun v70 =>
kSplit v70 (
aRet K (.bool true) g3 n12) (
kSplit v42 (
kLd g3 l1 (0 + 2) fun v76 =>
kSplit v76 (
aRet K (.bool true) g3 n12) (
kLdN g3 l1 (0 + 4) 8 fun c82 =>
kFill [(.int .u64 0), (.int .u64 0), (.int .u64 0), (.int .u64 0), (.int .u64 0), (.int .u64 0), (.int .u64 0), (.int .u64 0)] [] fun c83 =>
kBin (.agg [.i, .i, .i, .i, .i, .i, .i, .i]) .eql (.agg c82.toArray) (.agg c83.toArray) fun v84 =>
aRet K v84 g3 n12)) (
kLdN g3 l1 (0 + 4) 8 fun c82 =>
kFill [(.int .u64 0), (.int .u64 0), (.int .u64 0), (.int .u64 0), (.int .u64 0), (.int .u64 0), (.int .u64 0), (.int .u64 0)] [] fun c83 =>
kBin (.agg [.i, .i, .i, .i, .i, .i, .i, .i]) .eql (.agg c82.toArray) (.agg c83.toArray) fun v84 =>
aRet K v84 g3 n12)))))) (
kLd g3 l1 (0 + 0) fun v60 =>
kBin .int .eql v60 (.int .i64 8) fun v61 =>
kSplit v61 (
aRet K (.bool true) g3 n12) (
kLd g3 l1 (0 + 0) fun v64 =>
kBin .int .eql v64 (.int .i64 9) fun v65 =>
kSplit v65 (
aRet K (.bool true) g3 n12) (
kLd g3 l1 (0 + 0) fun v69 =>
kBin .int .eql v69 (.int .i64 10) fun v70 =>
kSplit v70 (
aRet K (.bool true) g3 n12) (
kSplit v42 (
kLd g3 l1 (0 + 2) fun v76 =>
kSplit v76 (
aRet K (.bool true) g3 n12) (
kLdN g3 l1 (0 + 4) 8 fun c82 =>
kFill [(.int .u64 0), (.int .u64 0), (.int .u64 0), (.int .u64 0), (.int .u64 0), (.int .u64 0), (.int .u64 0), (.int .u64 0)] [] fun c83 =>
kBin (.agg [.i, .i, .i, .i, .i, .i, .i, .i]) .eql (.agg c82.toArray) (.agg c83.toArray) fun v84 =>
aRet K v84 g3 n12)) (
kLdN g3 l1 (0 + 4) 8 fun c82 =>
kFill [(.int .u64 0), (.int .u64 0), (.int .u64 0), (.int .u64 0), (.int .u64 0), (.int .u64 0), (.int .u64 0), (.int .u64 0)] [] fun c83 =>
kBin (.agg [.i, .i, .i, .i, .i, .i, .i, .i]) .eql (.agg c82.toArray) (.agg c83.toArray) fun v84 =>
aRet K v84 g3 n12))))))) (
kLd g3 l1 (0 + 3) fun v52 =>
kSplit v52 (
kLd g3 l1 (0 + 0) fun v55 =>
kBin .int .neq v55 (.int .i64 7) fun v56 =>
kSplit v56 (
aRet K (.bool false) g3 n12) (
kLd g3 l1 (0 + 0) fun v60 =>
kBin .int .eql v60 (.int .i64 8) fun v61 =>
kSplit v61 (
aRet K (.bool true) g3 n12) (
kLd g3 l1 (0 + 0) fun v64 =>
kBin .int .eql v64 (.int .i64 9) fun v65 =>
kSplit v65 (
aRet K (.bool true) g3 n12) (
kLd g3 l1 (0 + 0) fun v69 =>
kBin .int .eql v69 (.int .i64 10) fun v70 =>
kSplit v70 (
aRet K (.bool true) g3 n12) (
kSplit v42 (
kLd g3 l1 (0 + 2) fun v76 =>
kSplit v76 (
aRet K (.bool true) g3 n12) (
kLdN g3 l1 (0 + 4) 8 fun c82 =>
kFill [(.int .u64 0), (.int .u64 0), (.int .u64 0), (.int .u64 0), (.int .u64 0), (.int .u64 0), (.int .u64 0), (.int .u64 0)] [] fun c83 =>
kBin (.agg [.i, .i, .i, .i, .i, .i, .i, .i]) .eql (.agg c82.toArray) (.agg c83.toArray) fun v84 =>
aRet K v84 g3 n12)) (
kLdN g3 l1 (0 + 4) 8 fun c82 =>
kFill [(.int .u64 0), (.int .u64 0), (.int .u64 0), (.int .u64 0), (.int .u64 0), (.int .u64 0), (.int .u64 0), (.int .u64 0)] [] fun c83 =>
kBin (.agg [.i, .i, .i, .i, .i, .i, .i, .i]) .eql (.agg c82.toArray) (.agg c83.toArray) fun v84 =>
aRet K v84 g3 n12)))))) (
kLd g3 l1 (0 + 0) fun v60 =>
kBin .int .eql v60 (.int .i64 8) fun v61 =>
kSplit v61 (
aRet K (.bool true) g3 n12) (
kLd g3 l1 (0 + 0) fun v64 =>
kBin .int .eql v64 (.int .i64 9) fun v65 =>
kSplit v65 (
aRet K (.bool true) g3 n12) (
kLd g3 l1 (0 + 0) fun v69 =>
kBin .int .eql v69 (.int .i64 10) fun v70 =>
kSplit v70 (
aRet K (.bool true) g3 n12) (
kSplit v42 (
kLd g3 l1 (0 + 2) fun v76 =>
kSplit v76 (
aRet K (.bool true) g3 n12) (
kLdN g3 l1 (0 + 4) 8 fun c82 =>
kFill [(.int .u64 0), (.int .u64 0), (.int .u64 0), (.int .u64 0), (.int .u64 0), (.int .u64 0), (.int .u64 0), (.int .u64 0)] [] fun c83 =>
kBin (.agg [.i, .i, .i, .i, .i, .i, .i, .i]) .eql (.agg c82.toArray) (.agg c83.toArray) fun v84 =>
aRet K v84 g3 n12)) (
kLdN g3 l1 (0 + 4) 8 fun c82 =>
kFill [(.int .u64 0), (.int .u64 0), (.int .u64 0), (.int .u64 0), (.int .u64 0), (.int .u64 0), (.int .u64 0), (.int .u64 0)] [] fun c83 =>
kBin (.agg [.i, .i, .i, .i, .i, .i, .i, .i]) .eql (.agg c82.toArray) (.agg c83.toArray) fun v84 =>
aRet K v84 g3 n12)))))))))))) (
kLd g2 l1 (0 + 1) fun v23 =>
kBin .int .lss v23 (.int .i64 0) fun v24 =>
kSplit v24 (
aRet K (.bool false) g2 n7) (
kLd g2 l1 (0 + 1) fun v28 =>
kBin .int .gtr v28 (.int .i64 63) fun v29 =>
kSplit v29 (
aRet K (.bool false) g2 n7) (
kLd g2 l1 (0 + 0) fun v32 =>
kBin .int .eql v32 (.int .i64 3) fun v33 =>
kSplit v33 (
kLd g2 l1 (0 + 2) fun v45 =>
kSplit v45 (
kUn .not (.bool true) fun v48 =>
kSplit v48 (
aRet K (.bool false) g2 n7) (
kLd g2 l1 (0 + 3) fun v52 =>
kSplit v52 (
kLd g2 l1 (0 + 0) fun v55 =>
kBin .int .neq v55 (.int .i64 7) fun v56 =>
kSplit v56 (
aRet K (.bool false) g2 n7) (
kLd g2 l1 (0 + 0) fun v60 =>
kBin .int .eql v60 (.int .i64 8) fun v61 =>
kSplit v61 (
aRet K (.bool true) g2 n7) (
kLd g2 l1 (0 + 0) fun v64 =>
kBin .int .eql v64 (.int .i64 9) fun v65 =>
kSplit v65 (
aRet K (.bool true) g2 n7) (
kLd g2 l1 (0 + 0) fun v69 =>
kBin .int .eql v69 (.int .i64 10) fun v70 =>
kSplit v70 (
aRet K (.bool true) g2 n7) (
kLd g2 l1 (0 + 2) fun v76 =>
kSplit v76 (
aRet K (.bool true) g2 n7) (
kLdN g2 l1 (0 + 4) 8 fun c82 =>
kFill [(.int .u64 0), (.int .u64 0), (.int .u64 0), (.int .u64 0), (.int .u64 0), (.int .u64 0), (.int .u64 0), (.int .u64 0)] [] fun c83 =>
kBin (.agg [.i, .i, .i, .i, .i, .i, .i, .i]) .eql (.agg c82.toArray) (.agg c83.toArray) fun v84 =>
aRet K v84 g2 n7)))))) (
kLd g2 l1 (0 + 0) fun v60 =>
kBin .int .eql v60 (.int .i64 8) fun v61 =>
kSplit v61 (
aRet K (.bool true) g2 n7) (
kLd g2 l1 (0 + 0) fun v64 =>
kBin .int .eql v64 (.int .i64 9) fun v65 =>
kSplit v65 (
aRet K (.bool true) g2 n7) (
kLd g2 l1 (0 + 0) fun v69 =>
kBin .int .eql v69 (.int .i64 10) fun v70 =>
kSplit v70 (
aRet K (.bool true) g2 n7) (
kLd g2 l1 (0 + 2) fun v76 =>
kSplit v76 (
aRet K (.bool true) g2 n7) (
kLdN g2 l1 (0 + 4) 8 fun c82 =>
kFill [(.int .u64 0), (.int .u64 0), (.int .u64 0), (.int .u64 0), (.int .u64 0), (.int .u64 0), (.int .u64 0), (.int .u64 0)] [] fun c83 =>
kBin (.agg [.i, .i, .i, .i, .i, .i, .i, .i]) .eql (.agg c82.toArray) (.agg c83.toArray) fun v84 =>
aRet K v84 g2 n7))))))) (
kLd g2 l1 (0 + 3) fun v52 =>
kSplit v52 (
kLd g2 l1 (0 + 0) fun v55 =>
kBin .int .neq v55 (.int .i64 7) fun v56 =>
kSplit v56 (
aRet K (.bool false) g2 n7) (
kLd g2 l1 (0 + 0) fun v60 =>
kBin .int .eql v60 (.int .i64 8) fun v61 =>
kSplit v61 (
aRet K (.bool true) g2 n7) (
kLd g2 l1 (0 + 0) fun v64 =>
kBin .int .eql v64 (.int .i64 9) fun v65 =>
kSplit v65 (
aRet K (.bool true) g2 n7) (
kLd g2 l1 (0 + 0) fun v69 =>
kBin .int .eql v69 (.int .i64 10) fun v70 =>
kSplit v70 (
aRet K (.bool true) g2 n7) (
kLd g2 l1 (0 + 2) fun v76 =>
kSplit v76 (
aRet K (.bool true) g2 n7) (
kLdN g2 l1 (0 + 4) 8 fun c82 =>
kFill [(.int .u64 0), (.int .u64 0), (.int .u64 0), (.int .u64 0), (.int .u64 0), (.int .u64 0), (.int .u64 0), (.int .u64 0)] [] fun c83 =>
kBin (.agg [.i, .i, .i, .i, .i, .i, .i, .i]) .eql (.agg c82.toArray) (.agg c83.toArray) fun v84 =>
aRet K v84 g2 n7)))))) (
kLd g2 l1 (0 + 0) fun v60 =>
kBin .int .eql v60 (.int .i64 8) fun v61 =>
kSplit v61 (
aRet K (.bool true) g2 n7) (
kLd g2 l1 (0 + 0) fun v64 =>
kBin .int .eql v64 (.int .i64 9) fun v65 =>
kSplit v65 (
aRet K (.bool true) g2 n7) (
kLd g2 l1 (0 + 0) fun v69 =>
kBin .int .eql v69 (.int .i64 10) fun v70 =>
kSplit v70 (
aRet K (.bool true) g2 n7) (
kLd g2 l1 (0 + 2) fun v76 =>
kSplit v76 (
aRet K (.bool true) g2 n7) (
kLdN g2 l1 (0 + 4) 8 fun c82 =>
kFill [(.int .u64 0), (.int .u64 0), (.int .u64 0), (.int .u64 0), (.int .u64 0), (.int .u64 0), (.int .u64 0), (.int .u64 0)] [] fun c83 =>
kBin (.agg [.i, .i, .i, .i, .i, .i, .i, .i]) .eql (.agg c82.toArray) (.agg c83.toArray) fun v84 =>
aRet K v84 g2 n7))))))) (
kLd g2 l1 (0 + 0) fun v36 =>
kBin .int .eql v36 (.int .i64 6) fun v37 =>
kSplit v37 (
kLd g2 l1 (0 + 2) fun v45 =>
kSplit v45 (
kUn .not (.bool true) fun v48 =>
kSplit v48 (
aRet K (.bool false) g2 n7) (
kLd g2 l1 (0 + 3) fun v52 =>
kSplit v52 (
kLd g2 l1 (0 + 0) fun v55 =>
kBin .int .neq v55 (.int .i64 7) fun v56 =>
kSplit v56 (
aRet K (.bool false) g2 n7) (
kLd g2 l1 (0 + 0) fun v60 =>
kBin .int .eql v60 (.int .i64 8) fun v61 =>
kSplit v61 (
aRet K (.bool true) g2 n7) (
kLd g2 l1 (0 + 0) fun v64 =>
kBin .int .eql v64 (.int .i64 9) fun v65 =>
kSplit v65 (
aRet K (.bool true) g2 n7) (
kLd g2 l1 (0 + 0) fun v69 =>
kBin .int .eql v69 (.int .i64 10) fun v70 =>
kSplit v70 (
aRet K (.bool true) g2 n7) (
kLd g2 l1 (0 + 2) fun v76 =>
kSplit v76 (
aRet K (.bool true) g2 n7) (
kLdN g2 l1 (0 + 4) 8 fun c82 =>
kFill [(.int .u64 0), (.int .u64 0), (.int .u64 0), (.int .u64 0), (.int .u64 0), (.int .u64 0), (.int .u64 0), (.int .u64 0)] [] fun c83 =>
kBin (.agg [.i, .i, .i, .i, .i, .i, .i, .i]) .eql (.agg c82.toArray) (.agg c83.toArray) fun v84 =>
aRet K v84 g2 n7)))))) (
kLd g2 l1 (0 + 0) fun v60 =>
kBin .int .eql v60 (.int .i64 8) fun v61 =>
kSplit v61 (
aRet K (.bool true) g2 n7) (
kLd g2 l1 (0 + 0) fun v64 =>
kBin .int .eql v64 (.int .i64 9) fun v65 =>
kSplit v65 (
aRet K (.bool true) g2 n7) (
kLd g2 l1 (0 + 0) fun v69 =>
kBin .int .eql v69 (.int .i64 10) fun v70 =>
kSplit v70 (
aRet K (.bool true) g2 n7) (
kLd g2 l1 (0 + 2) fun v76 =>
kSplit v76 (
aRet K (.bool true) g2 n7) (
kLdN g2 l1 (0 + 4) 8 fun c82 =>
kFill [(.int .u64 0), (.int .u64 0), (.int .u64 0), (.int .u64 0), (.int .u64 0), (.int .u64 0), (.int .u64 0), (.int .u64 0)] [] fun c83 =>
kBin (.agg [.i, .i, .i, .i, .i, .i, .i, .i]) .eql (.agg c82.toArray) (.agg c83.toArray) fun v84 =>
aRet K v84 g2 n7))))))) (
kLd g2 l1 (0 + 3) fun v52 =>
kSplit v52 (
kLd g2 l1 (0 + 0) fun v55 =>
kBin .int .neq v55 (.int .i64 7) fun v56 =>
kSplit v56 (
aRet K (.bool false) g2 n7) (
kLd g2 l1 (0 + 0) fun v60 =>
kBin .int .eql v60 (.int .i64 8) fun v61 =>
kSplit v61 (
aRet K (.bool true) g2 n7) (
kLd g2 l1 (0 + 0) fun v64 =>
kBin .int .eql v64 (.int .i64 9) fun v65 =>
kSplit v65 (
aRet K (.bool true) g2 n7) (
kLd g2 l1 (0 + 0) fun v69 =>
kBin .int .eql v69 (.int .i64 10) fun v70 =>
kSplit v70 (
aRet K (.bool true) g2 n7) (
kLd g2 l1 (0 + 2) fun v76 =>
kSplit v76 (
aRet K (.bool true) g2 n7) (
kLdN g2 l1 (0 + 4) 8 fun c82 =>
kFill [(.int .u64 0), (.int .u64 0), (.int .u64 0), (.int .u64 0), (.int .u64 0), (.int .u64 0), (.int .u64 0), (.int .u64 0)] [] fun c83 =>
kBin (.agg [.i, .i, .i, .i, .i, .i, .i, .i]) .eql (.agg c82.toArray) (.agg c83.toArray) fun v84 =>
aRet K v84 g2 n7)))))) (
kLd g2 l1 (0 + 0) fun v60 =>
kBin .int .eql v60 (.int .i64 8) fun v61 =>
kSplit v61 (
aRet K (.bool true) g2 n7) (
kLd g2 l1 (0 + 0) fun v64 =>
kBin .int .eql v64 (.int .i64 9) fun v65 =>
kSplit v65 (
aRet K (.bool true) g2 n7) (
kLd g2 l1 (0 + 0) fun v69 =>
kBin .int .eql v69 (.int .i64 10) fun v70 =>
kSplit v70 (
aRet K (.bool true) g2 n7) (
kLd g2 l1 (0 + 2) fun v76 =>
kSplit v76 (
aRet K (.bool true) g2 n7) (
kLdN g2 l1 (0 + 4) 8 fun c82 =>
kFill [(.int .u64 0), (.int .u64 0), (.int .u64 0), (.int .u64 0), (.int .u64 0), (.int .u64 0), (.int .u64 0), (.int .u64 0)] [] fun c83 =>
kBin (.agg [.i, .i, .i, .i, .i, .i, .i, .i]) .eql (.agg c82.toArray) (.agg c83.toArray) fun v84 =>
aRet K v84 g2 n7))))))) (
kLd g2 l1 (0 + 0) fun v41 =>
kBin .int .eql v41 (.int .i64 7) fun v42 =>
kLd g2 l1 (0 + 2) fun v45 =>
kSplit v45 (
kUn .not v42 fun v48 =>
kSplit v48 (
aRet K (.bool false) g2 n7) (
kLd g2 l1 (0 + 3) fun v52 =>
kSplit v52 (
kLd g2 l1 (0 + 0) fun v55 =>
kBin .int .neq v55 (.int .i64 7) fun v56 =>
kSplit v56 (
aRet K (.bool false) g2 n7) (
kLd g2 l1 (0 + 0) fun v60 =>
kBin .int .eql v60 (.int .i64 8) fun v61 =>
kSplit v61 (
aRet K (.bool true) g2 n7) (
kLd g2 l1 (0 + 0) fun v64 =>
kBin .int .eql v64 (.int .i64 9) fun v65 =>
kSplit v65 (
aRet K (.bool true) g2 n7) (
kLd g2 l1 (0 + 0) fun v69 =>
kBin .int .eql v69 (.int .i64 10) fun v70 =>
kSplit v70 (
aRet K (.bool true) g2 n7) (
kSplit v42 (
kLd g2 l1 (0 + 2) fun v76 =>
kSplit v76 (
aRet K (.bool true) g2 n7) (
kLdN g2 l1 (0 + 4) 8 fun c82 =>
kFill [(.int .u64 0), (.int .u64 0), (.int .u64 0), (.int .u64 0), (.int .u64 0), (.int .u64 0), (.int .u64 0), (.int .u64 0)] [] fun c83 =>
kBin (.agg [.i, .i, .i, .i, .i, .i, .i, .i]) .eql (.agg c82.toArray) (.agg c83.toArray) fun v84 =>
aRet K v84 g2 n7)) (
kLdN g2 l1 (0 + 4) 8 fun c82 =>
kFill [(.int .u64 0), (.int .u64 0), (.int .u64 0), (.int .u64 0), (.int .u64 0), (.int .u64 0), (.int .u64 0), (.int .u64 0)] [] fun c83 =>
kBin (.agg [.i, .i, .i, .i, .i, .i, .i, .i]) .eql (.agg c82.toArray) (.agg c83.toArray) fun v84 =>
aRet K v84 g2 n7)))))) (
kLd g2 l1 (0 + 0) fun v60 =>
kBin .int .eql v60 (.int .i64 8) fun v61 =>
kSplit v61 (
aRet K (.bool true) g2 n7) (
kLd g2 l1 (0 + 0) fun v64 =>
kBin .int .eql v64 (.int .i64 9) fun v65 =>
kSplit v65 (
aRet K (.bool true) g2 n7) (
kLd g2 l1 (0 + 0) fun v69 =>
kBin .int .eql v69 (.int .i64 10) fun v70 =>
kSplit v70 (
aRet K (.bool true) g2 n7) (
kSplit v42 (
kLd g2 l1 (0 + 2) fun v76 =>
kSplit v76 (
aRet K (.bool true) g2 n7) (
kLdN g2 l1 (0 + 4) 8 fun c82 =>
kFill [(.int .u64 0), (.int .u64 0), (.int .u64 0), (.int .u64 0), (.int .u64 0), (.int .u64 0), (.int .u64 0), (.int .u64 0)] [] fun c83 =>
kBin (.agg [.i, .i, .i, .i, .i, .i, .i, .i]) .eql (.agg c82.toArray) (.agg c83.toArray) fun v84 =>
aRet K v84 g2 n7)) (
kLdN g2 l1 (0 + 4) 8 fun c82 =>
kFill [(.int .u64 0), (.int .u64 0), (.int .u64 0), (.int .u64 0), (.int .u64 0), (.int .u64 0), (.int .u64 0), (.int .u64 0)] [] fun c83 =>
kBin (.agg [.i, .i, .i, .i, .i, .i, .i, .i]) .eql (.agg c82.toArray) (.agg c83.toArray) fun v84 =>
aRet K v84 g2 n7))))))) (
kLd g2 l1 (0 + 3) fun v52 =>
kSplit v52 (
kLd g2 l1 (0 + 0) fun v55 =>
kBin .int .neq v55 (.int .i64 7) fun v56 =>
kSplit v56 (
aRet K (.bool false) g2 n7) (
kLd g2 l1 (0 + 0) fun v60 =>
kBin .int .eql v60 (.int .i64 8) fun v61 =>
kSplit v61 (
aRet K (.bool true) g2 n7) (
kLd g2 l1 (0 + 0) fun v64 =>
kBin .int .eql v64 (.int .i64 9) fun v65 =>
kSplit v65 (
aRet K (.bool true) g2 n7) (
kLd g2 l1 (0 + 0) fun v69 =>
kBin .int .eql v69 (.int .i64 10) fun v70 =>
kSplit v70 (
aRet K (.bool true) g2 n7) (
kSplit v42 (
kLd g2 l1 (0 + 2) fun v76 =>
kSplit v76 (
aRet K (.bool true) g2 n7) (
kLdN g2 l1 (0 + 4) 8 fun c82 =>
kFill [(.int .u64 0), (.int .u64 0), (.int .u64 0), (.int .u64 0), (.int .u64 0), (.int .u64 0), (.int .u64 0), (.int .u64 0)] [] fun c83 =>
kBin (.agg [.i, .i, .i, .i, .i, .i, .i, .i]) .eql (.agg c82.toArray) (.agg c83.toArray) fun v84 =>
aRet K v84 g2 n7)) (
kLdN g2 l1 (0 + 4) 8 fun c82 =>
kFill [(.int .u64 0), (.int .u64 0), (.int .u64 0), (.int .u64 0), (.int .u64 0), (.int .u64 0), (.int .u64 0), (.int .u64 0)] [] fun c83 =>
kBin (.agg [.i, .i, .i, .i, .i, .i, .i, .i]) .eql (.agg c82.toArray) (.agg c83.toArray) fun v84 =>
aRet K v84 g2 n7)))))) (
kLd g2 l1 (0 + 0) fun v60 =>
kBin .int .eql v60 (.int .i64 8) fun v61 =>
kSplit v61 (
aRet K (.bool true) g2 n7) (
kLd g2 l1 (0 + 0) fun v64 =>
kBin .int .eql v64 (.int .i64 9) fun v65 =>
kSplit v65 (
aRet K (.bool true) g2 n7) (
kLd g2 l1 (0 + 0) fun v69 =>
kBin .int .eql v69 (.int .i64 10) fun v70 =>
kSplit v70 (
aRet K (.bool true) g2 n7) (
kSplit v42 (
kLd g2 l1 (0 + 2) fun v76 =>
kSplit v76 (
aRet K (.bool true) g2 n7) (
kLdN g2 l1 (0 + 4) 8 fun c82 =>
kFill [(.int .u64 0), (.int .u64 0), (.int .u64 0), (.int .u64 0), (.int .u64 0), (.int .u64 0), (.int .u64 0), (.int .u64 0)] [] fun c83 =>
kBin (.agg [.i, .i, .i, .i, .i, .i, .i, .i]) .eql (.agg c82.toArray) (.agg c83.toArray) fun v84 =>
aRet K v84 g2 n7)) (
kLdN g2 l1 (0 + 4) 8 fun c82 =>
kFill [(.int .u64 0), (.int .u64 0), (.int .u64 0), (.int .u64 0), (.int .u64 0), (.int .u64 0), (.int .u64 0), (.int .u64 0)] [] fun c83 =>
kBin (.agg [.i, .i, .i, .i, .i, .i, .i, .i]) .eql (.agg c82.toArray) (.agg c83.toArray) fun v84 =>
aRet K v84 g2 n7)))))))))))

theorem bellowsref06_Good_eq (C : CT) (a0 : Value) (g : G) (n : Nat) (K : Cont) : bellowsref06_Good C a0 g n K = abody Try.prog C bellowsref06_Good_id [a0] g n K := by kernel_rfl

/- bellows/bellowsref06.Tells -/
def bellowsref06_Tells (C : CT) (a0 : Value) (g : G) (n : Nat) (K : Cont) : Prop :=
kBin .int .geq a0 (.int .i64 8) fun v4 =>
kSplit v4 (
kBin .int .leq a0 (.int .i64 14) fun v7 =>
aRet K v7 g n) (
aRet K (.bool false) g n)

theorem bellowsref06_Tells_eq (C : CT) (a0 : Value) (g : G) (n : Nat) (K : Cont) : bellowsref06_Tells C a0 g n K = abody Try.prog C bellowsref06_Tells_id [a0] g n K := by kernel_rfl

/- (*bellows/bellowsref05.Array).Drop -/
def bellowsref05_Array_Drop (C : CT) (a0 a1 : Value) (g : G) (n : Nat) (K : Cont) : Prop :=
C bellowsref05_Array_At_id [a0, a1] g n fun v8 g1 n8 =>
kBin .int .lss v8 (.int .i64 0) fun v10 =>
kSplit v10 (
aRet K (.bool false) g1 n8) (
kNil a0 fun v12 =>
kPtr v12 fun l13 o13 =>
kLd g1 l13 (o13 + 2) fun v14 =>
kFill [(.int .i64 0), (.int .i64 0), (.int .u64 0), (.int .u64 0), (.int .u64 0), (.int .u64 0), (.int .u64 0), (.int .u64 0), (.int .u64 0), (.int .u64 0), (.int .i64 0)] [] fun c16 =>
kIndexAddr v14 v8 11 fun v17 =>
kPtr v17 fun lg2 og2 =>
kAgg (.agg c16.toArray) fun cg2 =>
cg2.length = 11 ∧ kStN g1 lg2 og2 cg2 fun g2 =>
aRet K (.bool true) g2 n8)

theorem bellowsref05_Array_Drop_eq (C : CT) (a0 a1 : Value) (g : G) (n : Nat) (K : Cont) : bellowsref05_Array_Drop C a0 a1 g n K = abody Try.prog C bellowsref05_Array_Drop_id [a0, a1] g n K := by kernel_rfl

/- (*bellows/bellowsref08.Agent).lose -/
def bellowsref08_Agent_lose_j2 (C : CT) (K : Cont) (t : Env) (g : G) (n : Nat) : Prop :=
kPtr (t 4) fun l39 o39 =>
kLdN g l39 o39 11 fun c39 =>
C bellowsref08_words_id [(.int .i64 6), (.agg c39.toArray), (t 2), (.bool false)] g n fun v41 g3 n41 =>
aRet K (.tuple #[v41, (.int .i64 0)]) g3 n41

def bellowsref08_Agent_lose_j3 (C : CT) (K : Cont) (t : Env) (g : G) (n : Nat) : Prop :=
kSplit (t 29) (
kNil (t 0) fun v33 =>
kPtr v33 fun l34 o34 =>
kLd g l34 (o34 + 0) fun v35 =>
kFill [(.int .u64 0), (.int .u64 0), (.int .u64 0), (.int .u64 0), (.int .u64 0), (.int .u64 0), (.int .u64 0), (.int .u64 0)] [] fun c37 =>
C bellowsref05_Array_Set_id [v35, (t 2), (.int .i64 8), (.agg c37.toArray)] g n fun v38 g5 n38 =>
bellowsref08_Agent_lose_j2 C K (puts t [(32, (t 0)), (33, v33), (34, (ptr l34 (o34 + 0))), (35, v35), (36, (t 2)), (37, (.agg c37.toArray)), (38, v38)]) g5 n38) (
aRet K (.tuple #[(.slice none 0 0), (.int .i64 16)]) g n)

def bellowsref08_Agent_lose_j1 (C : CT) (K : Cont) (t : Env) (g : G) (n : Nat) : Prop :=
kSplit (t 10) (
kNil (t 0) fun v15 =>
kPtr v15 fun l16 o16 =>
kLd g l16 (o16 + 0) fun v17 =>
C bellowsref05_Array_Drop_id [v17, (t 2)] g n fun v19 g2 n19 =>
bellowsref08_Agent_lose_j2 C K (puts t [(14, (t 0)), (15, v15), (16, (ptr l16 (o16 + 0))), (17, v17), (18, (t 2)), (19, v19)]) g2 n19) (
kBin .int .eql (t 9) (.int .i64 6) fun v21 =>
kSplit v21 (
kNil (t 0) fun v23 =>
kPtr v23 fun l24 o24 =>
kLd g l24 (o24 + 0) fun v25 =>
kFill [(.int .u64 0), (.int .u64 0), (.int .u64 0), (.int .u64 0), (.int .u64 0), (.int .u64 0), (.int .u64 0), (.int .u64 0)] [] fun c27 =>
C bellowsref05_Array_Set_id [v25, (t 2), (.int .i64 5), (.agg c27.toArray)] g n fun v28 g4 n28 =>
bellowsref08_Agent_lose_j2 C K (puts t [(21, v21), (20, v21), (22, (t 0)), (23, v23), (24, (ptr l24 (o24 + 0))), (25, v25), (26, (t 2)), (27, (.agg c27.toArray)), (28, v28)]) g4 n28) (
kBin .int .eql (t 9) (.int .i64 7) fun v30 =>
kSplit v30 (
bellowsref08_Agent_lose_j3 C K (puts t [(21, v21), (20, v21), (30, v30), (29, v30)]) g n) (
kBin .int .eql (t 9) (.int .i64 9) fun v31 =>
bellowsref08_Agent_lose_j3 C K (puts t [(21, v21), (20, v21), (30, v30), (29, v30), (31, v31), (29, v31)]) g n)))

def bellowsref08_Agent_lose (C : CT) (a0 a1 a2 : Value) (g : G) (n : Nat) (K : Cont) : Prop :=
kAgg a1 fun c4 =>
kNew c4 .exact g n fun l4 g1 n4 =>
kLd g1 l4 (0 + 0) fun v9 =>
kBin .int .eql v9 (.int .i64 1) fun v11 =>
kSplit v11 (
bellowsref08_Agent_lose_j1 C K (puts (args0 [a0, a1, a2]) [(4, (ptr l4 0)), (6, (.slice none 0 0)), (7, (.int .i64 0)), (8, (ptr l4 (0 + 0))), (9, v9), (11, v11), (10, v11)]) g1 n4) (
kBin .int .eql v9 (.int .i64 2) fun v12 =>
kSplit v12 (
bellowsref08_Agent_lose_j1 C K (puts (args0 [a0, a1, a2]) [(4, (ptr l4 0)), (6, (.slice none 0 0)), (7, (.int .i64 0)), (8, (ptr l4 (0 + 0))), (9, v9), (11, v11), (10, v11), (12, v12), (10, v12)]) g1 n4) (
kBin .int .eql v9 (.int .i64 3) fun v13 =>
bellowsref08_Agent_lose_j1 C K (puts (args0 [a0, a1, a2]) [(4, (ptr l4 0)), (6, (.slice none 0 0)), (7, (.int .i64 0)), (8, (ptr l4 (0 + 0))), (9, v9), (11, v11), (10, v11), (12, v12), (10, v12), (13, v13), (10, v13)]) g1 n4))

theorem bellowsref08_Agent_lose_eq (C : CT) (a0 a1 a2 : Value) (g : G) (n : Nat) (K : Cont) : bellowsref08_Agent_lose C a0 a1 a2 g n K = abody Try.prog C bellowsref08_Agent_lose_id [a0, a1, a2] g n K := by kernel_rfl

/- (*bellows/bellowsref08.Agent).share -/
def bellowsref08_Agent_share_j2 (C : CT) (K : Cont) (t : Env) (g : G) (n : Nat) : Prop :=
kSplit (t 24) (
kNil (t 0) fun v28 =>
kPtr v28 fun l29 o29 =>
kLd g l29 (o29 + 0) fun v30 =>
kFill [(.int .u64 0), (.int .u64 0), (.int .u64 0), (.int .u64 0), (.int .u64 0), (.int .u64 0), (.int .u64 0), (.int .u64 0)] [] fun c32 =>
C bellowsref05_Array_Set_id [v30, (t 2), (.int .i64 8), (.agg c32.toArray)] g n fun v33 g4 n33 =>
kPtr (t 4) fun l34 o34 =>
kLdN g4 l34 o34 11 fun c34 =>
C bellowsref08_words_id [(.int .i64 7), (.agg c34.toArray), (t 2), (.bool false)] g4 n33 fun v36 g5 n36 =>
aRet K (.tuple #[v36, (.int .i64 0)]) g5 n36) (
aRet K (.tuple #[(.slice none 0 0), (.int .i64 16)]) g n)

def bellowsref08_Agent_share_j1 (C : CT) (K : Cont) (t : Env) (g : G) (n : Nat) : Prop :=
kSplit (t 10) (
kNil (t 0) fun v14 =>
kPtr v14 fun l15 o15 =>
kLd g l15 (o15 + 0) fun v16 =>
kPtr (t 4) fun l18 o18 =>
kLdN g l18 (o18 + 2) 8 fun c19 =>
C bellowsref05_Array_Set_id [v16, (t 2), (.int .i64 1), (.agg c19.toArray)] g n fun v20 g2 n20 =>
kPtr (t 4) fun l21 o21 =>
kLdN g2 l21 o21 11 fun c21 =>
C bellowsref08_words_id [(.int .i64 7), (.agg c21.toArray), (t 2), (.bool true)] g2 n20 fun v23 g3 n23 =>
aRet K (.tuple #[v23, (.int .i64 0)]) g3 n23) (
kBin .int .eql (t 9) (.int .i64 7) fun v25 =>
kSplit v25 (
bellowsref08_Agent_share_j2 C K (puts t [(25, v25), (24, v25)]) g n) (
kBin .int .eql (t 9) (.int .i64 9) fun v26 =>
bellowsref08_Agent_share_j2 C K (puts t [(25, v25), (24, v25), (26, v26), (24, v26)]) g n))

def bellowsref08_Agent_share (C : CT) (a0 a1 a2 : Value) (g : G) (n : Nat) (K : Cont) : Prop :=
kAgg a1 fun c4 =>
kNew c4 .exact g n fun l4 g1 n4 =>
kLd g1 l4 (0 + 0) fun v9 =>
kBin .int .eql v9 (.int .i64 2) fun v11 =>
kSplit v11 (
bellowsref08_Agent_share_j1 C K (puts (args0 [a0, a1, a2]) [(4, (ptr l4 0)), (6, (.slice none 0 0)), (7, (.int .i64 0)), (8, (ptr l4 (0 + 0))), (9, v9), (11, v11), (10, v11)]) g1 n4) (
kBin .int .eql v9 (.int .i64 3) fun v12 =>
bellowsref08_Agent_share_j1 C K (puts (args0 [a0, a1, a2]) [(4, (ptr l4 0)), (6, (.slice none 0 0)), (7, (.int .i64 0)), (8, (ptr l4 (0 + 0))), (9, v9), (11, v11), (10, v11), (12, v12), (10, v12)]) g1 n4)

theorem bellowsref08_Agent_share_eq (C : CT) (a0 a1 a2 : Value) (g : G) (n : Nat) (K : Cont) : bellowsref08_Agent_share C a0 a1 a2 g n K = abody Try.prog C bellowsref08_Agent_share_id [a0, a1, a2] g n K := by kernel_rfl

/- (*bellows/bellowsref08.Agent).out -/
def bellowsref08_Agent_out_j1 (C : CT) (K : Cont) (t : Env) (g : G) (n : Nat) : Prop :=
kNil (t 0) fun v21 =>
kPtr v21 fun l22 o22 =>
kLd g l22 (o22 + 0) fun v23 =>
kPtr (t 5) fun l26 o26 =>
kLdN g l26 (o26 + 2) 8 fun c27 =>
C bellowsref05_Array_Set_id [v23, (t 1), (t 7), (.agg c27.toArray)] g n fun v28 g8 n28 =>
kPtr (t 6) fun l29 o29 =>
kLdN g8 l29 o29 12 fun c29 =>
kFill (reps 1 [(.int .i64 0), (.int .i64 0), (.bool false), (.bool false), (.int .u64 0), (.int .u64 0), (.int .u64 0), (.int .u64 0), (.int .u64 0), (.int .u64 0), (.int .u64 0), (.int .u64 0)]) [(0, (some 12), (.agg c29.toArray))] fun c30 =>
kNew c30 .exact g8 n28 fun l30 g9 n30 =>
aRet K (.slice (some ⟨l30, 0, none⟩) 1 1) g9 n30

def bellowsref08_Agent_out (C : CT) (a0 a1 : Value) (g : G) (n : Nat) (K : Cont) : Prop :=
C bellowsref08_Agent_Slot_id [a0, a1] g n fun v10 g1 n10 =>
kNew [(.int .i64 0), (.int .i64 0), (.int .u64 0), (.int .u64 0), (.int .u64 0), (.int .u64 0), (.int .u64 0), (.int .u64 0), (.int .u64 0), (.int .u64 0), (.int .i64 0)] .exact g1 n10 fun l5 g2 n5 =>
kAgg v10 fun cg3 =>
cg3.length = 11 ∧ kStN g2 l5 0 cg3 fun g3 =>
kFill [(.int .i64 0), (.int .i64 0), (.bool false), (.bool false), (.int .u64 0), (.int .u64 0), (.int .u64 0), (.int .u64 0), (.int .u64 0), (.int .u64 0), (.int .u64 0), (.int .u64 0)] [(0, none, (.int .i64 3)), (1, none, a1)] fun c12 =>
kNew [(.int .i64 0), (.int .i64 0), (.bool false), (.bool false), (.int .u64 0), (.int .u64 0), (.int .u64 0), (.int .u64 0), (.int .u64 0), (.int .u64 0), (.int .u64 0), (.int .u64 0)] .exact g3 n5 fun l6 g4 n6 =>
kAgg (.agg c12.toArray) fun cg5 =>
cg5.length = 12 ∧ kStN g4 l6 0 cg5 fun g5 =>
kLd g5 l5 (0 + 0) fun v14 =>
kBin .int .eql v14 (.int .i64 3) fun v15 =>
kSplit v15 (
kLdN g5 l5 (0 + 2) 8 fun c17 =>
kSt g5 l6 (0 + 2) (.bool true) fun g6 =>
(kPtr (ptr l5 (0 + 2)) fun l _ => g6 l = g5 l) ∧ kAgg (.agg c17.toArray) fun cg7 =>
cg7.length = 8 ∧ kStN g6 l6 (0 + 4) cg7 fun g7 =>
bellowsref08_Agent_out_j1 C K (puts (args0 [a0, a1]) [(4, (.slice none 0 0)), (8, a0), (9, a1), (10, v10), (5, (ptr l5 0)), (11, a1), (12, (.agg c12.toArray)), (6, (ptr l6 0)), (7, (.int .i64 7)), (13, (ptr l5 (0 + 0))), (14, v14), (15, v15), (16, (ptr l5 (0 + 2))), (17, (.agg c17.toArray)), (18, (ptr l6 (0 + 2))), (19, (ptr l6 (0 + 4))), (7, (.int .i64 9))]) g7 n6) (
bellowsref08_Agent_out_j1 C K (puts (args0 [a0, a1]) [(4, (.slice none 0 0)), (8, a0), (9, a1), (10, v10), (5, (ptr l5 0)), (11, a1), (12, (.agg c12.toArray)), (6, (ptr l6 0)), (7, (.int .i64 7)), (13, (ptr l5 (0 + 0))), (14, v14), (15, v15)]) g5 n6)

theorem bellowsref08_Agent_out_eq (C : CT) (a0 a1 : Value) (g : G) (n : Nat) (K : Cont) : bellowsref08_Agent_out C a0 a1 g n K = abody Try.prog C bellowsref08_Agent_out_id [a0, a1] g n K := by kernel_rfl

/- bellows/bellowsref08.one -/
def bellowsref08_one (C : CT) (a0 a1 : Value) (g : G) (n : Nat) (K : Cont) : Prop :=
kFill [(.int .i64 0), (.int .i64 0), (.bool false), (.bool false), (.int .u64 0), (.int .u64 0), (.int .u64 0), (.int .u64 0), (.int .u64 0), (.int .u64 0), (.int .u64 0), (.int .u64 0)] [(0, none, a0), (1, none, a1)] fun c7 =>
kFill (reps 1 [(.int .i64 0), (.int .i64 0), (.bool false), (.bool false), (.int .u64 0), (.int .u64 0), (.int .u64 0), (.int .u64 0), (.int .u64 0), (.int .u64 0), (.int .u64 0), (.int .u64 0)]) [(0, (some 12), (.agg c7.toArray))] fun c8 =>
kNew c8 .exact g n fun l8 g1 n8 =>
aRet K (.slice (some ⟨l8, 0, none⟩) 1 1) g1 n8

theorem bellowsref08_one_eq (C : CT) (a0 a1 : Value) (g : G) (n : Nat) (K : Cont) : bellowsref08_one C a0 a1 g n K = abody Try.prog C bellowsref08_one_id [a0, a1] g n K := by kernel_rfl

/- (*bellows/array.Array).Find -/
def array_Array_Find (C : CT) (a0 a1 : Value) (g : G) (n : Nat) (K : Cont) : Prop :=
kNew [(.int .i64 0), (.int .i64 0), (.int .u64 0), (.int .u64 0), (.int .u64 0), (.int .u64 0), (.int .u64 0), (.int .u64 0), (.int .u64 0), (.int .u64 0), (.int .i64 0)] .exact g n fun l4 g1 n4 =>
C array_Array_at_id [a0, a1] g1 n4 fun v9 g2 n9 =>
kBin .int .lss v9 (.int .i64 0) fun v11 =>
kSplit v11 (
kFill [(.int .i64 0), (.int .i64 0), (.int .u64 0), (.int .u64 0), (.int .u64 0), (.int .u64 0), (.int .u64 0), (.int .u64 0), (.int .u64 0), (.int .u64 0), (.int .i64 0)] [] fun c12 =>
kAgg (.agg c12.toArray) fun cg3 =>
cg3.length = 11 ∧ kStN g2 l4 0 cg3 fun g3 =>
kLdN g3 l4 0 11 fun r0 =>
aRet K (.tuple #[(.agg r0.toArray), (.bool false)]) g3 n9) (
C array_Array_set_id [a0, a1] g2 n9 fun v15 g4 n15 =>
kIndexAddr v15 v9 11 fun v17 =>
kPtr v17 fun l18 o18 =>
kLdN g4 l18 o18 11 fun c18 =>
kAgg (.agg c18.toArray) fun cg5 =>
cg5.length = 11 ∧ kStN g4 l4 0 cg5 fun g5 =>
kLdN g5 l4 0 11 fun r0 =>
aRet K (.tuple #[(.agg r0.toArray), (.bool true)]) g5 n15)

theorem array_Array_Find_eq (C : CT) (a0 a1 : Value) (g : G) (n : Nat) (K : Cont) : array_Array_Find C a0 a1 g n K = abody Try.prog C array_Array_Find_id [a0, a1] g n K := by kernel_rfl

/- (*bellows/array.Array).at -/
def array_Array_at (C : CT) (a0 a1 : Value) (g : G) (n : Nat) (K : Cont) : Prop :=
isCell a1 = true ∧ kNew [a1] .exact g n fun l3 g1 n3 =>
kBin .ptr .eql a0 (.pointer none) fun v6 =>
kSplit v6 (
aRet K (.int .i64 (-1)) g1 n3) (
kLd g1 l3 0 fun v8 =>
kBin .int .lss v8 (.int .i64 0) fun v9 =>
kSplit v9 (
aRet K (.int .i64 (-1)) g1 n3) (
kLd g1 l3 0 fun v12 =>
C array_Array_set_id [a0, v12] g1 n3 fun v13 g2 n13 =>
C slices_IndexFunc_array_Slot_array_Slot_id [v13, (.func (.func array_Array_at_1_id) #[] #[(ptr l3 0)])] g2 n13 fun v15 g3 n15 =>
aRet K v15 g3 n15))

theorem array_Array_at_eq (C : CT) (a0 a1 : Value) (g : G) (n : Nat) (K : Cont) : array_Array_at C a0 a1 g n K = abody Try.prog C array_Array_at_id [a0, a1] g n K := by kernel_rfl

/- (*bellows/array.Array).number -/
def array_Array_number (C : CT) (a0 : Value) (g : G) (n : Nat) (K : Cont) : Prop :=
kNil a0 fun v4 =>
kPtr v4 fun l5 o5 =>
kLd g l5 (o5 + 3) fun v6 =>
kBin .int .add v6 (.int .i64 1) fun v7 =>
kNil a0 fun v8 =>
kPtr v8 fun l9 o9 =>
kSt g l9 (o9 + 3) v7 fun g1 =>
kNil a0 fun v11 =>
kPtr v11 fun l12 o12 =>
kLd g1 l12 (o12 + 3) fun v13 =>
aRet K v13 g1 n

theorem array_Array_number_eq (C : CT) (a0 : Value) (g : G) (n : Nat) (K : Cont) : array_Array_number C a0 g n K = abody Try.prog C array_Array_number_id [a0] g n K := by kernel_rfl

/- (*bellows/array.Array).set -/
def array_Array_set (C : CT) (a0 a1 : Value) (g : G) (n : Nat) (K : Cont) : Prop :=
kNil a0 fun v7 =>
kPtr v7 fun l8 o8 =>
kLd g l8 (o8 + 0) fun v9 =>
kNil a0 fun v13 =>
kPtr v13 fun l14 o14 =>
kLd g l14 (o14 + 1) fun v15 =>
C geom_Set_id [v9, a1] g n fun v11 g1 n11 =>
(kPtr (ptr l14 (o14 + 1)) fun l _ => g1 l = g l) ∧ kBin .int .mul v11 v15 fun v16 =>
kNil a0 fun v18 =>
kPtr v18 fun l19 o19 =>
kLd g1 l19 (o19 + 2) fun v20 =>
kNil a0 fun v24 =>
kPtr v24 fun l25 o25 =>
kLd g1 l25 (o25 + 1) fun v26 =>
kBin .int .add v16 v26 fun v27 =>
kNil a0 fun v30 =>
kPtr v30 fun l31 o31 =>
kLd g1 l31 (o31 + 1) fun v32 =>
kBin .int .add v16 v32 fun v33 =>
kSlice v20 (some v16) (some v27) (some v33) 11 fun v34 =>
aRet K v34 g1 n11

theorem array_Array_set_eq (C : CT) (a0 a1 : Value) (g : G) (n : Nat) (K : Cont) : array_Array_set C a0 a1 g n K = abody Try.prog C array_Array_set_id [a0, a1] g n K := by kernel_rfl

/- (*bellows/array.Array).Room -/
def array_Array_Room_j2 (C : CT) (K : Cont) (I_l1 : ECont) (t : Env) (g : G) (n : Nat) : Prop :=
kSplit (t 27) (
kBin .int .lss (t 5) (.int .i64 0) fun v32 =>
kSplit v32 (
kPtr (t 8) fun l39 o39 =>
kLd g l39 (o39 + 1) fun v40 =>
kPtr (t 8) fun l41 o41 =>
kLd g l41 (o41 + 10) fun v42 =>
kBin .int .add (t 19) (.int .i64 1) fun v43 =>
I_l1 (puts t [(31, (t 5)), (32, v32), (33, (.bool true)), (34, undef), (35, undef), (36, undef), (37, undef), (38, (.bool true)), (39, (ptr l39 (o39 + 1))), (40, v40), (41, (ptr l41 (o41 + 10))), (42, v42), (5, v40), (6, v42), (43, v43), (19, v43)]) g n) (
kPtr (t 8) fun l34 o34 =>
kLd g l34 (o34 + 10) fun v35 =>
kBin .int .lss v35 (t 6) fun v37 =>
kSplit v37 (
kPtr (t 8) fun l39 o39 =>
kLd g l39 (o39 + 1) fun v40 =>
kPtr (t 8) fun l41 o41 =>
kLd g l41 (o41 + 10) fun v42 =>
kBin .int .add (t 19) (.int .i64 1) fun v43 =>
I_l1 (puts t [(31, (t 5)), (32, v32), (33, (.bool false)), (34, (ptr l34 (o34 + 10))), (35, v35), (36, (t 6)), (37, v37), (38, v37), (39, (ptr l39 (o39 + 1))), (40, v40), (41, (ptr l41 (o41 + 10))), (42, v42), (5, v40), (6, v42), (43, v43), (19, v43)]) g n) (
kBin .int .add (t 19) (.int .i64 1) fun v43 =>
I_l1 (puts t [(31, (t 5)), (32, v32), (33, (.bool false)), (34, (ptr l34 (o34 + 10))), (35, v35), (36, (t 6)), (37, v37), (38, v37), (43, v43), (19, v43)]) g n))) (
kBin .int .add (t 19) (.int .i64 1) fun v43 =>
I_l1 (puts t [(43, v43), (19, v43)]) g n)

def array_Array_Room_j3 (C : CT) (K : Cont) (t : Env) (g : G) (n : Nat) : Prop :=
aRet K (.tuple #[(.bool false), (t 5)]) g n

def array_Array_Room_l1 (C : CT) (K : Cont) (I_l1 : ECont) (t : Env) (g : G) (n : Nat) : Prop :=
kBin .int .lss (t 19) (t 18) fun v20 =>
kSplit v20 (
kIndexAddr (t 17) (t 19) 11 fun v21 =>
kPtr v21 fun l22 o22 =>
kLdN g l22 o22 11 fun c22 =>
kNew [(.int .i64 0), (.int .i64 0), (.int .u64 0), (.int .u64 0), (.int .u64 0), (.int .u64 0), (.int .u64 0), (.int .u64 0), (.int .u64 0), (.int .u64 0), (.int .i64 0)] .exact g n fun l8 g2 n8 =>
kAgg (.agg c22.toArray) fun cg3 =>
cg3.length = 11 ∧ kStN g2 l8 0 cg3 fun g3 =>
kLd g3 l8 (0 + 0) fun v24 =>
kBin .int .eql v24 (.int .i64 0) fun v26 =>
kSplit v26 (
aRet K (.tuple #[(.bool true), (.int .i64 (-1))]) g3 n8) (
kBin .int .eql v24 (.int .i64 1) fun v28 =>
kSplit v28 (
array_Array_Room_j2 C K I_l1 (puts t [(20, v20), (21, v21), (22, (.agg c22.toArray)), (8, (ptr l8 0)), (23, (ptr l8 (0 + 0))), (24, v24), (26, v26), (25, v26), (28, v28), (27, v28)]) g3 n8) (
kBin .int .eql v24 (.int .i64 2) fun v29 =>
kSplit v29 (
array_Array_Room_j2 C K I_l1 (puts t [(20, v20), (21, v21), (22, (.agg c22.toArray)), (8, (ptr l8 0)), (23, (ptr l8 (0 + 0))), (24, v24), (26, v26), (25, v26), (28, v28), (27, v28), (29, v29), (27, v29)]) g3 n8) (
kBin .int .eql v24 (.int .i64 3) fun v30 =>
array_Array_Room_j2 C K I_l1 (puts t [(20, v20), (21, v21), (22, (.agg c22.toArray)), (8, (ptr l8 0)), (23, (ptr l8 (0 + 0))), (24, v24), (26, v26), (25, v26), (28, v28), (27, v28), (29, v29), (27, v29), (30, v30), (27, v30)]) g3 n8)))) (
array_Array_Room_j3 C K (puts t [(20, v20)]) g n)

def array_Array_Room (C : CT) (a0 a1 : Value) (g : G) (n : Nat) (K : Cont) : Prop :=
kBin .ptr .eql a0 (.pointer none) fun v10 =>
kSplit v10 (
aRet K (.tuple #[(.bool false), (.int .i64 (-1))]) g n) (
kBin .int .lss a1 (.int .i64 0) fun v13 =>
kSplit v13 (
aRet K (.tuple #[(.bool false), (.int .i64 (-1))]) g n) (
C array_Array_set_id [a0, a1] g n fun v17 g1 n17 =>
kLen v17 fun v18 =>
lfp (array_Array_Room_l1 C K) (puts (args0 [a0, a1]) [(4, (.bool false)), (5, (.int .i64 0)), (9, a0), (10, v10), (11, (.bool false)), (12, a1), (13, v13), (14, v13), (5, (.int .i64 (-1))), (6, (.int .i64 0)), (15, a0), (16, a1), (17, v17), (18, v18), (19, (.int .i64 0))]) g1 n17))

theorem array_Array_Room_eq (C : CT) (a0 a1 : Value) (g : G) (n : Nat) (K : Cont) : array_Array_Room C a0 a1 g n K = abody Try.prog C array_Array_Room_id [a0, a1] g n K := by kernel_rfl

/- bellows/msg.may -/
def msg_may (C : CT) (g : G) (n : Nat) (K : Cont) : Prop :=
kNew [(.int .i64 0), (.int .i64 0), (.int .i64 0), (.int .i64 0), (.int .i64 0), (.int .i64 0), (.int .i64 0), (.int .i64 0), (.int .i64 0), (.int .i64 0), (.int .i64 0), (.int .i64 0), (.int .i64 0), (.int .i64 0), (.int .i64 0)] .exact g n fun l0 g1 n0 =>
kFill [(.int .i64 0), (.int .i64 0), (.int .i64 0), (.int .i64 0), (.int .i64 0), (.int .i64 0), (.int .i64 0), (.int .i64 0), (.int .i64 0), (.int .i64 0), (.int .i64 0), (.int .i64 0), (.int .i64 0), (.int .i64 0), (.int .i64 0)] [(3, none, (.int .i64 1)), (6, none, (.int .i64 1)), (7, none, (.int .i64 3)), (8, none, (.int .i64 4)), (9, none, (.int .i64 4)), (10, none, (.int .i64 4))] fun c1 =>
kAgg (.agg c1.toArray) fun cg2 =>
cg2.length = 15 ∧ kStN g1 l0 0 cg2 fun g2 =>
kLdN g2 l0 0 15 fun r0 =>
aRet K (.agg r0.toArray) g2 n0

theorem msg_may_eq (C : CT) (g : G) (n : Nat) (K : Cont) : msg_may C g n K = abody Try.prog C msg_may_id [] g n K := by kernel_rfl

/- slices.IndexFunc[[]bellows/array.Slot,bellows/array.Slot] -/
def slices_IndexFunc_array_Slot_array_Slot_l1 (C : CT) (K : Cont) (I_l1 : ECont) (t : Env) (g : G) (n : Nat) : Prop :=
kBin .int .lss (t 8) (t 7) fun v9 =>
kSplit v9 (
kIndexAddr (t 0) (t 8) 11 fun v14 =>
kPtr v14 fun l15 o15 =>
kLdN g l15 o15 11 fun c15 =>
kCall C (t 1) [(.agg c15.toArray)] g n fun v16 g1 n16 =>
kSplit v16 (
aRet K (t 8) g1 n16) (
kBin .int .add (t 8) (.int .i64 1) fun v18 =>
I_l1 (puts t [(9, v9), (10, (t 8)), (5, (t 8)), (11, (t 1)), (12, (t 0)), (13, (t 8)), (14, v14), (15, (.agg c15.toArray)), (16, v16), (18, v18), (8, v18)]) g1 n16)) (
aRet K (.int .i64 (-1)) g n)

def slices_IndexFunc_array_Slot_array_Slot (C : CT) (a0 a1 : Value) (g : G) (n : Nat) (K : Cont) : Prop :=
kLen a0 fun v7 =>
lfp (slices_IndexFunc_array_Slot_array_Slot_l1 C K) (puts (args0 [a0, a1]) [(4, (.int .i64 0)), (6, a0), (7, v7), (8, (.int .i64 0))]) g n

theorem slices_IndexFunc_array_Slot_array_Slot_eq (C : CT) (a0 a1 : Value) (g : G) (n : Nat) (K : Cont) : slices_IndexFunc_array_Slot_array_Slot C a0 a1 g n K = abody Try.prog C slices_IndexFunc_array_Slot_array_Slot_id [a0, a1] g n K := by kernel_rfl

/- bellows/array.empty -/
def array_empty (C : CT) (a0 : Value) (g : G) (n : Nat) (K : Cont) : Prop :=
kAgg a0 fun c1 =>
kNew c1 .exact g n fun l1 g1 n1 =>
kLd g1 l1 (0 + 0) fun v4 =>
kBin .int .eql v4 (.int .i64 0) fun v5 =>
aRet K v5 g1 n1

theorem array_empty_eq (C : CT) (a0 : Value) (g : G) (n : Nat) (K : Cont) : array_empty C a0 g n K = abody Try.prog C array_empty_id [a0] g n K := by kernel_rfl

/- slices.DeleteFunc[[]bellows/array.Slot,bellows/array.Slot] -/
def slices_DeleteFunc_array_Slot_array_Slot_j2 (C : CT) (K : Cont) (I_l1 : ECont) (t : Env) (g : G) (n : Nat) : Prop :=
kBin .int .add (t 6) (.int .i64 1) fun v21 =>
I_l1 (puts t [(20, (t 6)), (21, v21), (6, v21)]) g n

def slices_DeleteFunc_array_Slot_array_Slot_j3 (C : CT) (K : Cont) (t : Env) (g : G) (n : Nat) : Prop :=
kSlice (t 0) (some (t 5)) none none 11 fun v38 =>
kClear v38 [(.int .i64 0), (.int .i64 0), (.int .u64 0), (.int .u64 0), (.int .u64 0), (.int .u64 0), (.int .u64 0), (.int .u64 0), (.int .u64 0), (.int .u64 0), (.int .i64 0)] g fun v_ g6 =>
kSlice (t 0) none (some (t 5)) none 11 fun v41 =>
aRet K v41 g6 n

def slices_DeleteFunc_array_Slot_array_Slot_l1 (C : CT) (K : Cont) (I_l1 : ECont) (t : Env) (g : G) (n : Nat) : Prop :=
kLen (t 0) fun v18 =>
kBin .int .lss (t 6) v18 fun v19 =>
kSplit v19 (
kIndexAddr (t 0) (t 6) 11 fun v24 =>
kPtr v24 fun l25 o25 =>
kLdN g l25 o25 11 fun c25 =>
kNew [(.int .i64 0), (.int .i64 0), (.int .u64 0), (.int .u64 0), (.int .u64 0), (.int .u64 0), (.int .u64 0), (.int .u64 0), (.int .u64 0), (.int .u64 0), (.int .i64 0)] .exact g n fun l7 g2 n7 =>
kAgg (.agg c25.toArray) fun cg3 =>
cg3.length = 11 ∧ kStN g2 l7 0 cg3 fun g3 =>
kLdN g3 l7 0 11 fun c27 =>
kCall C (t 1) [(.agg c27.toArray)] g3 n7 fun v28 g4 n28 =>
kUn .not v28 fun v29 =>
kSplit v29 (
kLdN g4 l7 0 11 fun c32 =>
kIndexAddr (t 0) (t 5) 11 fun v33 =>
kPtr v33 fun lg5 og5 =>
kAgg (.agg c32.toArray) fun cg5 =>
cg5.length = 11 ∧ kStN g4 lg5 og5 cg5 fun g5 =>
kBin .int .add (t 5) (.int .i64 1) fun v35 =>
slices_DeleteFunc_array_Slot_array_Slot_j2 C K I_l1 (puts t [(16, (t 6)), (17, (t 0)), (18, v18), (19, v19), (22, (t 0)), (23, (t 6)), (24, v24), (25, (.agg c25.toArray)), (7, (ptr l7 0)), (26, (t 1)), (27, (.agg c27.toArray)), (28, v28), (29, v29), (30, (t 0)), (31, (t 5)), (32, (.agg c32.toArray)), (33, v33), (34, (t 5)), (35, v35), (5, v35)]) g5 n28) (
slices_DeleteFunc_array_Slot_array_Slot_j2 C K I_l1 (puts t [(16, (t 6)), (17, (t 0)), (18, v18), (19, v19), (22, (t 0)), (23, (t 6)), (24, v24), (25, (.agg c25.toArray)), (7, (ptr l7 0)), (26, (t 1)), (27, (.agg c27.toArray)), (28, v28), (29, v29)]) g4 n28)) (
slices_DeleteFunc_array_Slot_array_Slot_j3 C K (puts t [(16, (t 6)), (17, (t 0)), (18, v18), (19, v19)]) g n)

def slices_DeleteFunc_array_Slot_array_Slot (C : CT) (a0 a1 : Value) (g : G) (n : Nat) (K : Cont) : Prop :=
C slices_IndexFunc_array_Slot_array_Slot_id [a0, a1] g n fun v10 g1 n10 =>
kBin .int .eql v10 (.int .i64 (-1)) fun v12 =>
kSplit v12 (
aRet K a0 g1 n10) (
kBin .int .add v10 (.int .i64 1) fun v15 =>
lfp (slices_DeleteFunc_array_Slot_array_Slot_l1 C K) (puts (args0 [a0, a1]) [(4, (.slice none 0 0)), (8, a0), (9, a1), (10, v10), (5, v10), (11, v10), (12, v12), (14, v10), (15, v15), (6, v15)]) g1 n10)

theorem slices_DeleteFunc_array_Slot_array_Slot_eq (C : CT) (a0 a1 : Value) (g : G) (n : Nat) (K : Cont) : slices_DeleteFunc_array_Slot_array_Slot C a0 a1 g n K = abody Try.prog C slices_DeleteFunc_array_Slot_array_Slot_id [a0, a1] g n K := by kernel_rfl

/- slices.Clone[[]bellows/array.Slot,bellows/array.Slot] -/
def slices_Clone_array_Slot_array_Slot (C : CT) (a0 : Value) (g : G) (n : Nat) (K : Cont) : Prop :=
kBin .slice .eql a0 (.slice none 0 0) fun v4 =>
kSplit v4 (
aRet K (.slice none 0 0) g n) (
kFill (reps 0 [(.int .i64 0), (.int .i64 0), (.int .u64 0), (.int .u64 0), (.int .u64 0), (.int .u64 0), (.int .u64 0), (.int .u64 0), (.int .u64 0), (.int .u64 0), (.int .i64 0)]) [] fun c5 =>
kNew c5 .exact g n fun l5 g1 n5 =>
kAppend (.slice (some ⟨l5, 0, none⟩) 0 0) a0 11 88 g1 n5 fun v7 g2 n7 =>
aRet K v7 g2 n7)

theorem slices_Clone_array_Slot_array_Slot_eq (C : CT) (a0 : Value) (g : G) (n : Nat) (K : Cont) : slices_Clone_array_Slot_array_Slot C a0 g n K = abody Try.prog C slices_Clone_array_Slot_array_Slot_id [a0] g n K := by kernel_rfl

/- (*bellows/bellowsref05.Array).At -/
def bellowsref05_Array_At_l1 (C : CT) (K : Cont) (I_l1 : ECont) (t : Env) (g : G) (n : Nat) : Prop :=
kNil (t 0) fun v8 =>
kPtr v8 fun l9 o9 =>
kLd g l9 (o9 + 2) fun v10 =>
kLen v10 fun v11 =>
kBin .int .lss (t 5) v11 fun v12 =>
kSplit v12 (
kNil (t 0) fun v16 =>
kPtr v16 fun l17 o17 =>
kLd g l17 (o17 + 2) fun v18 =>
kIndexAddr v18 (t 5) 11 fun v20 =>
kPtr v20 fun l21 o21 =>
kLd g l21 (o21 + 0) fun v22 =>
kBin .int .neq v22 (.int .i64 0) fun v23 =>
kSplit v23 (
kNil (t 0) fun v26 =>
kPtr v26 fun l27 o27 =>
kLd g l27 (o27 + 2) fun v28 =>
kIndexAddr v28 (t 5) 11 fun v30 =>
kPtr v30 fun l31 o31 =>
kLd g l31 (o31 + 1) fun v32 =>
kBin .int .eql v32 (t 1) fun v34 =>
kSplit v34 (
aRet K (t 5) g n) (
kBin .int .add (t 5) (.int .i64 1) fun v14 =>
I_l1 (puts t [(6, (t 5)), (7, (t 0)), (8, v8), (9, (ptr l9 (o9 + 2))), (10, v10), (11, v11), (12, v12), (15, (t 0)), (16, v16), (17, (ptr l17 (o17 + 2))), (18, v18), (19, (t 5)), (20, v20), (21, (ptr l21 (o21 + 0))), (22, v22), (23, v23), (24, (.bool true)), (25, (t 0)), (26, v26), (27, (ptr l27 (o27 + 2))), (28, v28), (29, (t 5)), (30, v30), (31, (ptr l31 (o31 + 1))), (32, v32), (33, (t 1)), (34, v34), (35, v34), (13, (t 5)), (14, v14), (5, v14)]) g n)) (
kBin .int .add (t 5) (.int .i64 1) fun v14 =>
I_l1 (puts t [(6, (t 5)), (7, (t 0)), (8, v8), (9, (ptr l9 (o9 + 2))), (10, v10), (11, v11), (12, v12), (15, (t 0)), (16, v16), (17, (ptr l17 (o17 + 2))), (18, v18), (19, (t 5)), (20, v20), (21, (ptr l21 (o21 + 0))), (22, v22), (23, v23), (24, (.bool false)), (25, undef), (26, undef), (27, undef), (28, undef), (29, undef), (30, undef), (31, undef), (32, undef), (33, undef), (34, undef), (35, (.bool false)), (13, (t 5)), (14, v14), (5, v14)]) g n)) (
aRet K (.int .i64 (-1)) g n)

def bellowsref05_Array_At (C : CT) (a0 a1 : Value) (g : G) (n : Nat) (K : Cont) : Prop :=
lfp (bellowsref05_Array_At_l1 C K) (puts (args0 [a0, a1]) [(4, (.int .i64 0)), (5, (.int .i64 0))]) g n

theorem bellowsref05_Array_At_eq (C : CT) (a0 a1 : Value) (g : G) (n : Nat) (K : Cont) : bellowsref05_Array_At C a0 a1 g n K = abody Try.prog C bellowsref05_Array_At_id [a0, a1] g n K := by kernel_rfl

/- (*bellows/bellowsref05.Array).Free -/
def bellowsref05_Array_Free_l1 (C : CT) (K : Cont) (I_l1 : ECont) (t : Env) (g : G) (n : Nat) : Prop :=
kNil (t 0) fun v14 =>
kPtr v14 fun l15 o15 =>
kLd g l15 (o15 + 1) fun v16 =>
C bellowsref05_Array_first_id [(t 0), (t 1)] g n fun v12 g2 n12 =>
(kPtr (ptr l15 (o15 + 1)) fun l _ => g2 l = g l) ∧ kBin .int .add v12 v16 fun v17 =>
kBin .int .lss (t 5) v17 fun v18 =>
kSplit v18 (
kNil (t 0) fun v22 =>
kPtr v22 fun l23 o23 =>
kLd g2 l23 (o23 + 2) fun v24 =>
kIndexAddr v24 (t 5) 11 fun v26 =>
kPtr v26 fun l27 o27 =>
kLd g2 l27 (o27 + 0) fun v28 =>
kBin .int .eql v28 (.int .i64 0) fun v29 =>
kSplit v29 (
aRet K (t 5) g2 n12) (
kBin .int .add (t 5) (.int .i64 1) fun v20 =>
I_l1 (puts t [(9, (t 5)), (10, (t 0)), (11, (t 1)), (13, (t 0)), (14, v14), (15, (ptr l15 (o15 + 1))), (16, v16), (12, v12), (17, v17), (18, v18), (21, (t 0)), (22, v22), (23, (ptr l23 (o23 + 2))), (24, v24), (25, (t 5)), (26, v26), (27, (ptr l27 (o27 + 0))), (28, v28), (29, v29), (19, (t 5)), (20, v20), (5, v20)]) g2 n12)) (
aRet K (.int .i64 (-1)) g2 n12)

def bellowsref05_Array_Free (C : CT) (a0 a1 : Value) (g : G) (n : Nat) (K : Cont) : Prop :=
C bellowsref05_Array_first_id [a0, a1] g n fun v8 g1 n8 =>
lfp (bellowsref05_Array_Free_l1 C K) (puts (args0 [a0, a1]) [(4, (.int .i64 0)), (6, a0), (7, a1), (8, v8), (5, v8)]) g1 n8

theorem bellowsref05_Array_Free_eq (C : CT) (a0 a1 : Value) (g : G) (n : Nat) (K : Cont) : bellowsref05_Array_Free C a0 a1 g n K = abody Try.prog C bellowsref05_Array_Free_id [a0, a1] g n K := by kernel_rfl

/- (*bellows/bellowsref05.Array).Victim -/
def bellowsref05_Array_Victim_j2 (C : CT) (K : Cont) (I_l1 : ECont) (t : Env) (g : G) (n : Nat) : Prop :=
kBin .int .add (t 6) (.int .i64 1) fun v21 =>
I_l1 (puts t [(20, (t 6)), (21, v21), (6, v21)]) g n

def bellowsref05_Array_Victim_j3 (C : CT) (K : Cont) (t : Env) (g : G) (n : Nat) : Prop :=
kBin .int .lss (t 5) (.int .i64 0) fun v56 =>
kSplit v56 (
aRet K (.int .i64 (-1)) g n) (
kNil (t 0) fun v58 =>
kPtr v58 fun l59 o59 =>
kLd g l59 (o59 + 2) fun v60 =>
kIndexAddr v60 (t 5) 11 fun v62 =>
kPtr v62 fun l63 o63 =>
kLd g l63 (o63 + 1) fun v64 =>
aRet K v64 g n)

def bellowsref05_Array_Victim_l1 (C : CT) (K : Cont) (I_l1 : ECont) (t : Env) (g : G) (n : Nat) : Prop :=
kNil (t 0) fun v15 =>
kPtr v15 fun l16 o16 =>
kLd g l16 (o16 + 1) fun v17 =>
C bellowsref05_Array_first_id [(t 0), (t 1)] g n fun v13 g2 n13 =>
(kPtr (ptr l16 (o16 + 1)) fun l _ => g2 l = g l) ∧ kBin .int .add v13 v17 fun v18 =>
kBin .int .lss (t 6) v18 fun v19 =>
kSplit v19 (
kNil (t 0) fun v23 =>
kPtr v23 fun l24 o24 =>
kLd g2 l24 (o24 + 2) fun v25 =>
kIndexAddr v25 (t 6) 11 fun v27 =>
kPtr v27 fun l28 o28 =>
kLd g2 l28 (o28 + 0) fun v29 =>
C bellowsref05_rest_id [v29] g2 n13 fun v30 g3 n30 =>
kSplit v30 (
kBin .int .lss (t 5) (.int .i64 0) fun v33 =>
kSplit v33 (
bellowsref05_Array_Victim_j2 C K I_l1 (puts t [(10, (t 6)), (11, (t 0)), (12, (t 1)), (14, (t 0)), (15, v15), (16, (ptr l16 (o16 + 1))), (17, v17), (13, v13), (18, v18), (19, v19), (22, (t 0)), (23, v23), (24, (ptr l24 (o24 + 2))), (25, v25), (26, (t 6)), (27, v27), (28, (ptr l28 (o28 + 0))), (29, v29), (30, v30), (31, (.bool true)), (32, (t 5)), (33, v33), (34, (.bool true)), (35, undef), (36, undef), (37, undef), (38, undef), (39, undef), (40, undef), (41, undef), (42, undef), (43, undef), (44, undef), (45, undef), (46, undef), (47, undef), (48, undef), (49, undef), (50, undef), (51, undef), (52, (.bool true)), (53, (.bool true)), (54, (t 6)), (5, (t 6))]) g3 n30) (
kNil (t 0) fun v36 =>
kPtr v36 fun l37 o37 =>
kLd g3 l37 (o37 + 2) fun v38 =>
kIndexAddr v38 (t 6) 11 fun v40 =>
kPtr v40 fun l41 o41 =>
kLd g3 l41 (o41 + 10) fun v42 =>
kNil (t 0) fun v44 =>
kPtr v44 fun l45 o45 =>
kLd g3 l45 (o45 + 2) fun v46 =>
kIndexAddr v46 (t 5) 11 fun v48 =>
kPtr v48 fun l49 o49 =>
kLd g3 l49 (o49 + 10) fun v50 =>
kBin .int .lss v42 v50 fun v51 =>
kSplit v51 (
bellowsref05_Array_Victim_j2 C K I_l1 (puts t [(10, (t 6)), (11, (t 0)), (12, (t 1)), (14, (t 0)), (15, v15), (16, (ptr l16 (o16 + 1))), (17, v17), (13, v13), (18, v18), (19, v19), (22, (t 0)), (23, v23), (24, (ptr l24 (o24 + 2))), (25, v25), (26, (t 6)), (27, v27), (28, (ptr l28 (o28 + 0))), (29, v29), (30, v30), (31, (.bool true)), (32, (t 5)), (33, v33), (34, (.bool false)), (35, (t 0)), (36, v36), (37, (ptr l37 (o37 + 2))), (38, v38), (39, (t 6)), (40, v40), (41, (ptr l41 (o41 + 10))), (42, v42), (43, (t 0)), (44, v44), (45, (ptr l45 (o45 + 2))), (46, v46), (47, (t 5)), (48, v48), (49, (ptr l49 (o49 + 10))), (50, v50), (51, v51), (52, v51), (53, v51), (54, (t 6)), (5, (t 6))]) g3 n30) (
bellowsref05_Array_Victim_j2 C K I_l1 (puts t [(10, (t 6)), (11, (t 0)), (12, (t 1)), (14, (t 0)), (15, v15), (16, (ptr l16 (o16 + 1))), (17, v17), (13, v13), (18, v18), (19, v19), (22, (t 0)), (23, v23), (24, (ptr l24 (o24 + 2))), (25, v25), (26, (t 6)), (27, v27), (28, (ptr l28 (o28 + 0))), (29, v29), (30, v30), (31, (.bool true)), (32, (t 5)), (33, v33), (34, (.bool false)), (35, (t 0)), (36, v36), (37, (ptr l37 (o37 + 2))), (38, v38), (39, (t 6)), (40, v40), (41, (ptr l41 (o41 + 10))), (42, v42), (43, (t 0)), (44, v44), (45, (ptr l45 (o45 + 2))), (46, v46), (47, (t 5)), (48, v48), (49, (ptr l49 (o49 + 10))), (50, v50), (51, v51), (52, v51), (53, v51)]) g3 n30))) (
bellowsref05_Array_Victim_j2 C K I_l1 (puts t [(10, (t 6)), (11, (t 0)), (12, (t 1)), (14, (t 0)), (15, v15), (16, (ptr l16 (o16 + 1))), (17, v17), (13, v13), (18, v18), (19, v19), (22, (t 0)), (23, v23), (24, (ptr l24 (o24 + 2))), (25, v25), (26, (t 6)), (27, v27), (28, (ptr l28 (o28 + 0))), (29, v29), (30, v30), (31, (.bool false)), (32, undef), (33, undef), (34, undef), (35, undef), (36, undef), (37, undef), (38, undef), (39, undef), (40, undef), (41, undef), (42, undef), (43, undef), (44, undef), (45, undef), (46, undef), (47, undef), (48, undef), (49, undef), (50, undef), (51, undef), (52, undef), (53, (.bool false))]) g3 n30)) (
bellowsref05_Array_Victim_j3 C K (puts t [(10, (t 6)), (11, (t 0)), (12, (t 1)), (14, (t 0)), (15, v15), (16, (ptr l16 (o16 + 1))), (17, v17), (13, v13), (18, v18), (19, v19)]) g2 n13)

def bellowsref05_Array_Victim (C : CT) (a0 a1 : Value) (g : G) (n : Nat) (K : Cont) : Prop :=
C bellowsref05_Array_first_id [a0, a1] g n fun v9 g1 n9 =>
lfp (bellowsref05_Array_Victim_l1 C K) (puts (args0 [a0, a1]) [(4, (.int .i64 0)), (5, (.int .i64 (-1))), (7, a0), (8, a1), (9, v9), (6, v9)]) g1 n9

theorem bellowsref05_Array_Victim_eq (C : CT) (a0 a1 : Value) (g : G) (n : Nat) (K : Cont) : bellowsref05_Array_Victim C a0 a1 g n K = abody Try.prog C bellowsref05_Array_Victim_id [a0, a1] g n K := by kernel_rfl

/- bellows/bellowsref06.Asks -/
def bellowsref06_Asks (C : CT) (a0 : Value) (g : G) (n : Nat) (K : Cont) : Prop :=
kBin .int .geq a0 (.int .i64 1) fun v4 =>
kSplit v4 (
kBin .int .leq a0 (.int .i64 5) fun v7 =>
aRet K v7 g n) (
aRet K (.bool false) g n)

theorem bellowsref06_Asks_eq (C : CT) (a0 : Value) (g : G) (n : Nat) (K : Cont) : bellowsref06_Asks C a0 g n K = abody Try.prog C bellowsref06_Asks_id [a0] g n K := by kernel_rfl

/- bellows/bellowsref06.Answers -/
def bellowsref06_Answers (C : CT) (a0 : Value) (g : G) (n : Nat) (K : Cont) : Prop :=
kBin .int .eql a0 (.int .i64 6) fun v4 =>
kSplit v4 (
aRet K (.bool true) g n) (
kBin .int .eql a0 (.int .i64 7) fun v7 =>
aRet K v7 g n)

theorem bellowsref06_Answers_eq (C : CT) (a0 : Value) (g : G) (n : Nat) (K : Cont) : bellowsref06_Answers C a0 g n K = abody Try.prog C bellowsref06_Answers_id [a0] g n K := by kernel_rfl

/- bellows/bellowsref08.words -/
def bellowsref08_words_j1 (C : CT) (K : Cont) (t : Env) (g : G) (n : Nat) : Prop :=
kPtr (t 9) fun l26 o26 =>
kLdN g l26 o26 12 fun c26 =>
kFill (reps 1 [(.int .i64 0), (.int .i64 0), (.bool false), (.bool false), (.int .u64 0), (.int .u64 0), (.int .u64 0), (.int .u64 0), (.int .u64 0), (.int .u64 0), (.int .u64 0), (.int .u64 0)]) [(0, (some 12), (.agg c26.toArray))] fun c27 =>
kNew c27 .exact g n fun l27 g6 n27 =>
aRet K (.slice (some ⟨l27, 0, none⟩) 1 1) g6 n27

def bellowsref08_words (C : CT) (a0 a1 a2 a3 : Value) (g : G) (n : Nat) (K : Cont) : Prop :=
kAgg a1 fun c5 =>
kNew c5 .exact g n fun l5 g1 n5 =>
kFill [(.int .i64 0), (.int .i64 0), (.bool false), (.bool false), (.int .u64 0), (.int .u64 0), (.int .u64 0), (.int .u64 0), (.int .u64 0), (.int .u64 0), (.int .u64 0), (.int .u64 0)] [(0, none, a0), (1, none, a2), (3, none, a3)] fun c13 =>
kNew [(.int .i64 0), (.int .i64 0), (.bool false), (.bool false), (.int .u64 0), (.int .u64 0), (.int .u64 0), (.int .u64 0), (.int .u64 0), (.int .u64 0), (.int .u64 0), (.int .u64 0)] .exact g1 n5 fun l9 g2 n9 =>
kAgg (.agg c13.toArray) fun cg3 =>
cg3.length = 12 ∧ kStN g2 l9 0 cg3 fun g3 =>
kLd g3 l5 (0 + 0) fun v15 =>
kBin .int .eql v15 (.int .i64 3) fun v16 =>
kSplit v16 (
kLdN g3 l5 (0 + 2) 8 fun c23 =>
kSt g3 l9 (0 + 2) (.bool true) fun g4 =>
(kPtr (ptr l5 (0 + 2)) fun l _ => g4 l = g3 l) ∧ kAgg (.agg c23.toArray) fun cg5 =>
cg5.length = 8 ∧ kStN g4 l9 (0 + 4) cg5 fun g5 =>
bellowsref08_words_j1 C K (puts (args0 [a0, a1, a2, a3]) [(5, (ptr l5 0)), (8, (.slice none 0 0)), (10, a0), (11, a2), (12, a3), (13, (.agg c13.toArray)), (9, (ptr l9 0)), (14, (ptr l5 (0 + 0))), (15, v15), (16, v16), (17, (.bool true)), (18, undef), (19, undef), (20, undef), (21, (.bool true)), (22, (ptr l5 (0 + 2))), (23, (.agg c23.toArray)), (24, (ptr l9 (0 + 2))), (25, (ptr l9 (0 + 4)))]) g5 n9) (
kLd g3 l5 (0 + 0) fun v19 =>
kBin .int .eql v19 (.int .i64 9) fun v20 =>
kSplit v20 (
kLdN g3 l5 (0 + 2) 8 fun c23 =>
kSt g3 l9 (0 + 2) (.bool true) fun g7 =>
(kPtr (ptr l5 (0 + 2)) fun l _ => g7 l = g3 l) ∧ kAgg (.agg c23.toArray) fun cg8 =>
cg8.length = 8 ∧ kStN g7 l9 (0 + 4) cg8 fun g8 =>
bellowsref08_words_j1 C K (puts (args0 [a0, a1, a2, a3]) [(5, (ptr l5 0)), (8, (.slice none 0 0)), (10, a0), (11, a2), (12, a3), (13, (.agg c13.toArray)), (9, (ptr l9 0)), (14, (ptr l5 (0 + 0))), (15, v15), (16, v16), (17, (.bool false)), (18, (ptr l5 (0 + 0))), (19, v19), (20, v20), (21, v20), (22, (ptr l5 (0 + 2))), (23, (.agg c23.toArray)), (24, (ptr l9 (0 + 2))), (25, (ptr l9 (0 + 4)))]) g8 n9) (
bellowsref08_words_j1 C K (puts (args0 [a0, a1, a2, a3]) [(5, (ptr l5 0)), (8, (.slice none 0 0)), (10, a0), (11, a2), (12, a3), (13, (.agg c13.toArray)), (9, (ptr l9 0)), (14, (ptr l5 (0 + 0))), (15, v15), (16, v16), (17, (.bool false)), (18, (ptr l5 (0 + 0))), (19, v19), (20, v20), (21, v20)]) g3 n9))

theorem bellowsref08_words_eq (C : CT) (a0 a1 a2 a3 : Value) (g : G) (n : Nat) (K : Cont) : bellowsref08_words C a0 a1 a2 a3 g n K = abody Try.prog C bellowsref08_words_id [a0, a1, a2, a3] g n K := by kernel_rfl

/- (*bellows/array.Array).at$1 -/
def array_Array_at_1 (C : CT) (a0 a1 : Value) (g : G) (n : Nat) (K : Cont) : Prop :=
kAgg a0 fun c2 =>
kNew c2 .exact g n fun l2 g1 n2 =>
kLd g1 l2 (0 + 0) fun v5 =>
kBin .int .neq v5 (.int .i64 0) fun v6 =>
kSplit v6 (
kLd g1 l2 (0 + 1) fun v9 =>
kPtr a1 fun l10 o10 =>
kLd g1 l10 o10 fun v10 =>
kBin .int .eql v9 v10 fun v11 =>
aRet K v11 g1 n2) (
aRet K (.bool false) g1 n2)

theorem array_Array_at_1_eq (C : CT) (a0 a1 : Value) (g : G) (n : Nat) (K : Cont) : array_Array_at_1 C a0 a1 g n K = abody Try.prog C array_Array_at_1_id [a0, a1] g n K := by kernel_rfl

/- bellows/geom.Set -/
def geom_Set_j1 (C : CT) (K : Cont) (t : Env) (g : G) (n : Nat) : Prop :=
kSplit (t 8) (
kBin .int .rem (t 1) (t 0) fun v15 =>
aRet K v15 g n) (
aRet K (.int .i64 0) g n)

def geom_Set (C : CT) (a0 a1 : Value) (g : G) (n : Nat) (K : Cont) : Prop :=
kBin .int .lss a1 (.int .i64 0) fun v6 =>
kSplit v6 (
aRet K (.int .i64 0) g n) (
kBin .int .eql a0 (.int .i64 1) fun v9 =>
kSplit v9 (
geom_Set_j1 C K (puts (args0 [a0, a1]) [(4, (.int .i64 0)), (5, a1), (6, v6), (7, a0), (9, v9), (8, v9)]) g n) (
kBin .int .eql a0 (.int .i64 2) fun v10 =>
kSplit v10 (
geom_Set_j1 C K (puts (args0 [a0, a1]) [(4, (.int .i64 0)), (5, a1), (6, v6), (7, a0), (9, v9), (8, v9), (10, v10), (8, v10)]) g n) (
kBin .int .eql a0 (.int .i64 4) fun v11 =>
kSplit v11 (
geom_Set_j1 C K (puts (args0 [a0, a1]) [(4, (.int .i64 0)), (5, a1), (6, v6), (7, a0), (9, v9), (8, v9), (10, v10), (8, v10), (11, v11), (8, v11)]) g n) (
kBin .int .eql a0 (.int .i64 8) fun v12 =>
geom_Set_j1 C K (puts (args0 [a0, a1]) [(4, (.int .i64 0)), (5, a1), (6, v6), (7, a0), (9, v9), (8, v9), (10, v10), (8, v10), (11, v11), (8, v11), (12, v12), (8, v12)]) g n))))

theorem geom_Set_eq (C : CT) (a0 a1 : Value) (g : G) (n : Nat) (K : Cont) : geom_Set C a0 a1 g n K = abody Try.prog C geom_Set_id [a0, a1] g n K := by kernel_rfl

/- (*bellows/bellowsref05.Array).first -/
def bellowsref05_Array_first (C : CT) (a0 a1 : Value) (g : G) (n : Nat) (K : Cont) : Prop :=
kNil a0 fun v6 =>
kPtr v6 fun l7 o7 =>
kLd g l7 (o7 + 0) fun v8 =>
kNil a0 fun v12 =>
kPtr v12 fun l13 o13 =>
kLd g l13 (o13 + 1) fun v14 =>
C bellowsref04_Set_id [v8, a1] g n fun v10 g1 n10 =>
(kPtr (ptr l13 (o13 + 1)) fun l _ => g1 l = g l) ∧ kBin .int .mul v10 v14 fun v15 =>
aRet K v15 g1 n10

theorem bellowsref05_Array_first_eq (C : CT) (a0 a1 : Value) (g : G) (n : Nat) (K : Cont) : bellowsref05_Array_first C a0 a1 g n K = abody Try.prog C bellowsref05_Array_first_id [a0, a1] g n K := by kernel_rfl

/- bellows/bellowsref05.rest -/
def bellowsref05_rest (C : CT) (a0 : Value) (g : G) (n : Nat) (K : Cont) : Prop :=
kBin .int .geq a0 (.int .i64 1) fun v4 =>
kSplit v4 (
kBin .int .leq a0 (.int .i64 3) fun v7 =>
aRet K v7 g n) (
aRet K (.bool false) g n)

theorem bellowsref05_rest_eq (C : CT) (a0 : Value) (g : G) (n : Nat) (K : Cont) : bellowsref05_rest C a0 g n K = abody Try.prog C bellowsref05_rest_id [a0] g n K := by kernel_rfl

/- bellows/bellowsref04.Set -/
def bellowsref04_Set (C : CT) (a0 a1 : Value) (g : G) (n : Nat) (K : Cont) : Prop :=
kBin .int .neq a0 (.int .i64 1) fun v6 =>
kSplit v6 (
kBin .int .neq a0 (.int .i64 2) fun v9 =>
kSplit v9 (
kBin .int .neq a0 (.int .i64 4) fun v13 =>
kSplit v13 (
kBin .int .neq a0 (.int .i64 8) fun v17 =>
kSplit v17 (
aRet K (.int .i64 0) g n) (
kBin .int .lss a1 (.int .i64 0) fun v21 =>
kSplit v21 (
aRet K (.int .i64 0) g n) (
kBin .int .rem a1 a0 fun v25 =>
aRet K v25 g n))) (
kBin .int .lss a1 (.int .i64 0) fun v21 =>
kSplit v21 (
aRet K (.int .i64 0) g n) (
kBin .int .rem a1 a0 fun v25 =>
aRet K v25 g n))) (
kBin .int .lss a1 (.int .i64 0) fun v21 =>
kSplit v21 (
aRet K (.int .i64 0) g n) (
kBin .int .rem a1 a0 fun v25 =>
aRet K v25 g n))) (
kBin .int .lss a1 (.int .i64 0) fun v21 =>
kSplit v21 (
aRet K (.int .i64 0) g n) (
kBin .int .rem a1 a0 fun v25 =>
aRet K v25 g n))

theorem bellowsref04_Set_eq (C : CT) (a0 a1 : Value) (g : G) (n : Nat) (K : Cont) : bellowsref04_Set C a0 a1 g n K = abody Try.prog C bellowsref04_Set_id [a0, a1] g n K := by kernel_rfl

end Go.Proofs.Ytncodeibkmekmab.Gen
